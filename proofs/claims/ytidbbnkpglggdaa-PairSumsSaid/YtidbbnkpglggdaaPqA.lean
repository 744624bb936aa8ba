/- The resolved code of the functions, by a program. -/
import Derived.Test.YtidbbnkpglggdaaChecked
import Derived.Test.YtidbbnkpglggdaaWkC
namespace Go.W
open Go.Proofs
set_option maxRecDepth 100000
theorem mixT:Try.prog.follows .mixedOrders=true:=Try.checked.mixed
def q59_0:List MO:=[Ma 1 (.box (.t 0)),Ma 2 (.mv (.c (.int .i64 0)))]
@[simp] theorem l59_0:q59_0.length=2:=rfl
instance:KR Try.f59.ntmps q59_0:=⟨[1],by kernel_rfl⟩
def q59_1:List MO:=[Ma 3 (.faddr 0 (.t 1)),Ma 4 (.faddr 0 (.t 3)),Ma 5 (.load false 1 (.t 4)),Ma 6 (.faddr 0 (.t 1)),Ma 7 (.faddr 1 (.t 6)),Ma 8 (.load false 1 (.t 7)),Ma 9 (.bin .mul (.t 5) (.t 8)),Ma 2 (.mv (.t 9))]
@[simp] theorem l59_1:q59_1.length=8:=rfl
instance:KR Try.f59.ntmps q59_1:=⟨[2],by kernel_rfl⟩
def m59:MCode:=.seq (.reg q59_0) (.seq (.reg q59_1) .ret)
theorem rc59:rcOf Try.prog Try.f59=some m59:=by kernel_rfl
theorem rv59:rRVs Try.prog Try.f59.results.toList=some [(.t 2)]:=by kernel_rfl
theorem nm59:(Try.f59.name == "runtime.NumGoroutine")=false:=by kernel_rfl
def q38_0:List MO:=[Ma 1 (.box (.t 0)),Ma 2 (.mv (.c (.int .i64 0)))]
@[simp] theorem l38_0:q38_0.length=2:=rfl
instance:KR Try.f38.ntmps q38_0:=⟨[1],by kernel_rfl⟩
def q38_1:List MO:=[Ma 3 (.faddr 0 (.t 1)),Ma 4 (.faddr 2 (.t 3)),Ma 5 (.load false 1 (.t 4)),Ma 6 (.faddr 0 (.t 1)),Ma 7 (.faddr 3 (.t 6)),Ma 8 (.load false 1 (.t 7)),Ma 9 (.bin .mul (.t 5) (.t 8)),Ma 2 (.mv (.t 9))]
@[simp] theorem l38_1:q38_1.length=8:=rfl
instance:KR Try.f38.ntmps q38_1:=⟨[2],by kernel_rfl⟩
def q50_0:List MO:=[Ma 2 (.box (.t 0)),Ma 4 (.mv (.c (.int .i64 0)))]
@[simp] theorem l50_0:q50_0.length=2:=rfl
instance:KR Try.f50.ntmps q50_0:=⟨[1],by kernel_rfl⟩
def q50_1:List MO:=[Ma 5 (.mv (.t 1)),Ma 6 (.bin .mul (.c (.int .i64 2)) (.t 5)),Ma 4 (.mv (.t 6))]
@[simp] theorem l50_1:q50_1.length=3:=rfl
instance:KR Try.f50.ntmps q50_1:=⟨[4],by kernel_rfl⟩
def m50:MCode:=.seq (.reg q50_0) (.seq (.reg q50_1) .ret)
theorem rc50:rcOf Try.prog Try.f50=some m50:=by kernel_rfl
theorem rv50:rRVs Try.prog Try.f50.results.toList=some [(.t 4)]:=by kernel_rfl
theorem nm50:(Try.f50.name == "runtime.NumGoroutine")=false:=by kernel_rfl
def q51_0:List MO:=[Ma 2 (.box (.t 0)),Ma 4 (.mv (.c (.int .i64 0)))]
@[simp] theorem l51_0:q51_0.length=2:=rfl
instance:KR Try.f51.ntmps q51_0:=⟨[1],by kernel_rfl⟩
def q51_1:List MO:=[Ma 5 (.mv (.t 1)),Ma 6 (.bin .mul (.c (.int .i64 2)) (.t 5)),Ma 7 (.bin .add (.t 6) (.c (.int .i64 1))),Ma 4 (.mv (.t 7))]
@[simp] theorem l51_1:q51_1.length=4:=rfl
instance:KR Try.f51.ntmps q51_1:=⟨[4],by kernel_rfl⟩
def m51:MCode:=.seq (.reg q51_0) (.seq (.reg q51_1) .ret)
theorem rc51:rcOf Try.prog Try.f51=some m51:=by kernel_rfl
theorem rv51:rRVs Try.prog Try.f51.results.toList=some [(.t 4)]:=by kernel_rfl
theorem nm51:(Try.f51.name == "runtime.NumGoroutine")=false:=by kernel_rfl
def q76_0:List MO:=[Ma 2 (.box (.t 0)),Ma 4 (.mv (.c (.int .i64 0)))]
@[simp] theorem l76_0:q76_0.length=2:=rfl
instance:KR Try.f76.ntmps q76_0:=⟨[1,2],by kernel_rfl⟩
def q76_1:List MO:=[Ma 5 (.mv (.t 1)),Ma 6 (.bin .lss (.t 5) (.c (.int .i64 0))),Ma 7 (.mv (.t 6)),Mg 8 (.mv (.t 1)) 7 false,Mg 9 (.load true 7 (.t 2)) 7 false,Mg 10 (.call (.c (.fn 59 [])) [(.t 9)]) 7 false,Mg 11 (.bin .geq (.t 8) (.t 10)) 7 false,Ma 12 (.pick (.t 7) (.c (.bool true)) (.t 11))]
@[simp] theorem l76_1:q76_1.length=8:=rfl
instance:KR Try.f76.ntmps q76_1:=⟨[1,2,12],by kernel_rfl⟩
def q76_2:List MO:=[Ma 4 (.mv (.c (.int .i64 (-1))))]
@[simp] theorem l76_2:q76_2.length=1:=rfl
instance:KR Try.f76.ntmps q76_2:=⟨[4],by kernel_rfl⟩
def q76_3:List MO:=[Ma 13 (.mv (.t 1)),Ma 14 (.faddr 0 (.t 2)),Ma 15 (.faddr 1 (.t 14)),Ma 16 (.load false 1 (.t 15)),Ma 17 (.bin .quo (.t 13) (.t 16)),Ma 4 (.mv (.t 17))]
@[simp] theorem l76_3:q76_3.length=6:=rfl
instance:KR Try.f76.ntmps q76_3:=⟨[4],by kernel_rfl⟩
def m76:MCode:=.seq (.reg q76_0) (.seq (.seq (.reg q76_1) (.cond (.t 12) (.seq (.reg q76_2) .ret) .skip)) (.seq (.reg q76_3) .ret))
theorem rc76:rcOf Try.prog Try.f76=some m76:=by kernel_rfl
theorem rv76:rRVs Try.prog Try.f76.results.toList=some [(.t 4)]:=by kernel_rfl
theorem nm76:(Try.f76.name == "runtime.NumGoroutine")=false:=by kernel_rfl
def q101_0:List MO:=[Ma 3 (.box (.t 0)),Ma 6 (.mv (.c (.int .i64 0)))]
@[simp] theorem l101_0:q101_0.length=2:=rfl
instance:KR Try.f101.ntmps q101_0:=⟨[1,2,3],by kernel_rfl⟩
def q101_1:List MO:=[Ma 7 (.mv (.t 1)),Ma 8 (.bin .lss (.t 7) (.c (.int .i64 0))),Ma 9 (.mv (.t 8)),Mg 10 (.mv (.t 1)) 9 false,Mg 11 (.faddr 0 (.t 3)) 9 false,Mg 12 (.faddr 2 (.t 11)) 9 false,Mg 13 (.load false 1 (.t 12)) 9 false,Mg 14 (.bin .geq (.t 10) (.t 13)) 9 false,Ma 15 (.pick (.t 9) (.c (.bool true)) (.t 14)),Ma 16 (.mv (.t 15)),Mg 17 (.mv (.t 2)) 16 false,Mg 18 (.bin .lss (.t 17) (.c (.int .i64 0))) 16 false,Ma 19 (.pick (.t 16) (.c (.bool true)) (.t 18)),Ma 20 (.mv (.t 19)),Mg 21 (.mv (.t 2)) 20 false,Mg 22 (.faddr 0 (.t 3)) 20 false,Mg 23 (.faddr 3 (.t 22)) 20 false,Mg 24 (.load false 1 (.t 23)) 20 false,Mg 25 (.bin .geq (.t 21) (.t 24)) 20 false,Ma 26 (.pick (.t 20) (.c (.bool true)) (.t 25))]
@[simp] theorem l101_1:q101_1.length=20:=rfl
instance:KR Try.f101.ntmps q101_1:=⟨[1,2,3,26],by kernel_rfl⟩
def q101_2:List MO:=[Ma 6 (.mv (.c (.int .i64 (-1))))]
@[simp] theorem l101_2:q101_2.length=1:=rfl
instance:KR Try.f101.ntmps q101_2:=⟨[6],by kernel_rfl⟩
def q101_3:List MO:=[Ma 27 (.mv (.t 1)),Ma 28 (.faddr 0 (.t 3)),Ma 29 (.faddr 3 (.t 28)),Ma 30 (.load false 1 (.t 29)),Ma 31 (.bin .mul (.t 27) (.t 30)),Ma 32 (.mv (.t 2)),Ma 33 (.bin .add (.t 31) (.t 32)),Ma 6 (.mv (.t 33))]
@[simp] theorem l101_3:q101_3.length=8:=rfl
instance:KR Try.f101.ntmps q101_3:=⟨[6],by kernel_rfl⟩
def m101:MCode:=.seq (.reg q101_0) (.seq (.seq (.reg q101_1) (.cond (.t 26) (.seq (.reg q101_2) .ret) .skip)) (.seq (.reg q101_3) .ret))
theorem rc101:rcOf Try.prog Try.f101=some m101:=by kernel_rfl
theorem rv101:rRVs Try.prog Try.f101.results.toList=some [(.t 6)]:=by kernel_rfl
theorem nm101:(Try.f101.name == "runtime.NumGoroutine")=false:=by kernel_rfl
def q102_0:List MO:=[Ma 2 (.box (.t 0)),Ma 4 (.mv (.c (.int .i64 0)))]
@[simp] theorem l102_0:q102_0.length=2:=rfl
instance:KR Try.f102.ntmps q102_0:=⟨[1,2],by kernel_rfl⟩
def q102_1:List MO:=[Ma 5 (.mv (.t 1)),Ma 6 (.bin .lss (.t 5) (.c (.int .i64 1))),Ma 7 (.mv (.t 6)),Mg 8 (.mv (.t 1)) 7 false,Mg 9 (.bin .gtr (.t 8) (.c (.int .i64 9999))) 7 false,Ma 10 (.pick (.t 7) (.c (.bool true)) (.t 9))]
@[simp] theorem l102_1:q102_1.length=6:=rfl
instance:KR Try.f102.ntmps q102_1:=⟨[1,2,10],by kernel_rfl⟩
def q102_2:List MO:=[Ma 4 (.mv (.c (.int .i64 (-1))))]
@[simp] theorem l102_2:q102_2.length=1:=rfl
instance:KR Try.f102.ntmps q102_2:=⟨[4],by kernel_rfl⟩
def q102_3:List MO:=[Ma 11 (.mv (.t 1)),Ma 12 (.bin .sub (.t 11) (.c (.int .i64 1))),Ma 13 (.faddr 0 (.t 2)),Ma 14 (.faddr 3 (.t 13)),Ma 15 (.load false 1 (.t 14)),Ma 16 (.bin .mul (.t 12) (.t 15)),Ma 17 (.bin .quo (.t 16) (.c (.int .i64 9999))),Ma 4 (.mv (.t 17))]
@[simp] theorem l102_3:q102_3.length=8:=rfl
instance:KR Try.f102.ntmps q102_3:=⟨[4],by kernel_rfl⟩
def m102:MCode:=.seq (.reg q102_0) (.seq (.seq (.reg q102_1) (.cond (.t 10) (.seq (.reg q102_2) .ret) .skip)) (.seq (.reg q102_3) .ret))
theorem rc102:rcOf Try.prog Try.f102=some m102:=by kernel_rfl
theorem rv102:rRVs Try.prog Try.f102.results.toList=some [(.t 4)]:=by kernel_rfl
theorem nm102:(Try.f102.name == "runtime.NumGoroutine")=false:=by kernel_rfl
def q74_0:List MO:=[Ma 1 (.box (.t 0)),Ma 2 (.mv (.c (.int .i64 0)))]
@[simp] theorem l74_0:q74_0.length=2:=rfl
instance:KR Try.f74.ntmps q74_0:=⟨[1],by kernel_rfl⟩
def q74_1:List MO:=[Ma 3 (.load true 7 (.t 1)),Ma 4 (.call (.c (.fn 59 [])) [(.t 3)]),Ma 5 (.bin .mul (.t 4) (.c (.int .i64 2))),Ma 6 (.load true 7 (.t 1)),Ma 7 (.call (.c (.fn 59 [])) [(.t 6)]),Ma 8 (.faddr 0 (.t 1)),Ma 9 (.faddr 6 (.t 8)),Ma 10 (.load false 1 (.t 9)),Ma 11 (.bin .mul (.t 7) (.t 10)),Ma 12 (.faddr 0 (.t 1)),Ma 13 (.faddr 5 (.t 12)),Ma 14 (.load false 1 (.t 13)),Ma 15 (.bin .add (.t 14) (.c (.int .i64 1))),Ma 16 (.bin .mul (.t 11) (.t 15)),Ma 17 (.bin .add (.t 5) (.t 16)),Ma 2 (.mv (.t 17))]
@[simp] theorem l74_1:q74_1.length=16:=rfl
def p74_1:List (List Nat):=[[],[0],[1],[],[3,1],[],[5],[6],[4,7],[],[9],[10],[11],[8,12],[2,13],[14,4,0,1,2,3,4,5,6,7,8,9,10,11,12,13,14]]
instance:KD Try.f74.ntmps q74_1 p74_1:=⟨[[],[0],[0,1],[],[0,1,3],[],[5],[5,6],[0,1,3,4,5,6,7],[],[9],[9,10],[9,10,11],[0,1,3,4,5,6,7,8,9,10,11,12],[0,1,2,3,4,5,6,7,8,9,10,11,12,13],[0,1,2,3,4,5,6,7,8,9,10,11,12,13,14]],[2],by kernel_rfl⟩
def m74:MCode:=.seq (.reg q74_0) (.seq (.draw q74_1 p74_1) .ret)
theorem rc74:rcOf Try.prog Try.f74=some m74:=by kernel_rfl
theorem rv74:rRVs Try.prog Try.f74.results.toList=some [(.t 2)]:=by kernel_rfl
theorem nm74:(Try.f74.name == "runtime.NumGoroutine")=false:=by kernel_rfl
def q20_0:List MO:=[Ma 4 (.box (.t 0)),Ma 8 (.mv (.c (.int .i64 0)))]
@[simp] theorem l20_0:q20_0.length=2:=rfl
instance:KR Try.f20.ntmps q20_0:=⟨[1,2,3,4],by kernel_rfl⟩
def q20_1:List MO:=[Ma 9 (.mv (.t 1)),Ma 10 (.bin .lss (.t 9) (.c (.int .i64 0))),Ma 11 (.mv (.t 10)),Mg 12 (.mv (.t 1)) 11 false,Mg 13 (.load true 7 (.t 4)) 11 false,Mg 14 (.call (.c (.fn 59 [])) [(.t 13)]) 11 false,Mg 15 (.bin .geq (.t 12) (.t 14)) 11 false,Ma 16 (.pick (.t 11) (.c (.bool true)) (.t 15)),Ma 17 (.mv (.t 16)),Mg 18 (.mv (.t 2)) 17 false,Mg 19 (.bin .lss (.t 18) (.c (.int .i64 1))) 17 false,Ma 20 (.pick (.t 17) (.c (.bool true)) (.t 19)),Ma 21 (.mv (.t 20)),Mg 22 (.mv (.t 2)) 21 false,Mg 23 (.faddr 0 (.t 4)) 21 false,Mg 24 (.faddr 6 (.t 23)) 21 false,Mg 25 (.load false 1 (.t 24)) 21 false,Mg 26 (.bin .gtr (.t 22) (.t 25)) 21 false,Ma 27 (.pick (.t 21) (.c (.bool true)) (.t 26)),Ma 28 (.mv (.t 27)),Mg 29 (.mv (.t 3)) 28 false,Mg 30 (.bin .lss (.t 29) (.c (.int .i64 0))) 28 false,Ma 31 (.pick (.t 28) (.c (.bool true)) (.t 30)),Ma 32 (.mv (.t 31)),Mg 33 (.mv (.t 3)) 32 false,Mg 34 (.faddr 0 (.t 4)) 32 false,Mg 35 (.faddr 5 (.t 34)) 32 false,Mg 36 (.load false 1 (.t 35)) 32 false,Mg 37 (.bin .gtr (.t 33) (.t 36)) 32 false,Ma 38 (.pick (.t 32) (.c (.bool true)) (.t 37))]
@[simp] theorem l20_1:q20_1.length=30:=rfl
instance:KR Try.f20.ntmps q20_1:=⟨[1,2,3,4,38],by kernel_rfl⟩
def q20_2:List MO:=[Ma 8 (.mv (.c (.int .i64 (-1))))]
@[simp] theorem l20_2:q20_2.length=1:=rfl
instance:KR Try.f20.ntmps q20_2:=⟨[8],by kernel_rfl⟩
def q20_3:List MO:=[Ma 39 (.load true 7 (.t 4)),Ma 40 (.call (.c (.fn 59 [])) [(.t 39)]),Ma 41 (.bin .mul (.t 40) (.c (.int .i64 2))),Ma 42 (.mv (.t 1)),Ma 43 (.faddr 0 (.t 4)),Ma 44 (.faddr 6 (.t 43)),Ma 45 (.load false 1 (.t 44)),Ma 46 (.bin .mul (.t 42) (.t 45)),Ma 47 (.mv (.t 2)),Ma 48 (.bin .add (.t 46) (.t 47)),Ma 49 (.bin .sub (.t 48) (.c (.int .i64 1))),Ma 50 (.faddr 0 (.t 4)),Ma 51 (.faddr 5 (.t 50)),Ma 52 (.load false 1 (.t 51)),Ma 53 (.bin .add (.t 52) (.c (.int .i64 1))),Ma 54 (.bin .mul (.t 49) (.t 53)),Ma 55 (.bin .add (.t 41) (.t 54)),Ma 56 (.mv (.t 3)),Ma 57 (.bin .add (.t 55) (.t 56)),Ma 8 (.mv (.t 57))]
@[simp] theorem l20_3:q20_3.length=20:=rfl
def p20_3:List (List Nat):=[[],[0],[1],[],[],[4],[5],[3,6],[],[7,8],[9],[],[11],[12],[13],[10,14],[2,15],[],[16,17],[18,1,0,1,2,3,4,5,6,7,8,9,10,11,12,13,14,15,16,17,18]]
instance:KD Try.f20.ntmps q20_3 p20_3:=⟨[[],[0],[0,1],[],[],[4],[4,5],[3,4,5,6],[],[3,4,5,6,7,8],[3,4,5,6,7,8,9],[],[11],[11,12],[11,12,13],[3,4,5,6,7,8,9,10,11,12,13,14],[0,1,2,3,4,5,6,7,8,9,10,11,12,13,14,15],[],[0,1,2,3,4,5,6,7,8,9,10,11,12,13,14,15,16,17],[0,1,2,3,4,5,6,7,8,9,10,11,12,13,14,15,16,17,18]],[8],by kernel_rfl⟩
def m20:MCode:=.seq (.reg q20_0) (.seq (.seq (.reg q20_1) (.cond (.t 38) (.seq (.reg q20_2) .ret) .skip)) (.seq (.draw q20_3 p20_3) .ret))
theorem rc20:rcOf Try.prog Try.f20=some m20:=by kernel_rfl
theorem rv20:rRVs Try.prog Try.f20.results.toList=some [(.t 8)]:=by kernel_rfl
theorem nm20:(Try.f20.name == "runtime.NumGoroutine")=false:=by kernel_rfl
def q16_0:List MO:=[Ma 1 (.box (.t 0)),Ma 2 (.mv (.c (.bool false)))]
@[simp] theorem l16_0:q16_0.length=2:=rfl
instance:KR Try.f16.ntmps q16_0:=⟨[1],by kernel_rfl⟩
def q16_1:List MO:=[Ma 3 (.faddr 0 (.t 1)),Ma 4 (.load false 1 (.t 3)),Ma 5 (.bin .eql (.t 4) (.c (.int .i64 3))),Ma 6 (.mv (.t 5)),Mg 7 (.faddr 0 (.t 1)) 6 false,Mg 8 (.load false 1 (.t 7)) 6 false,Mg 9 (.bin .eql (.t 8) (.c (.int .i64 4))) 6 false,Ma 10 (.pick (.t 6) (.c (.bool true)) (.t 9)),Ma 2 (.mv (.t 10))]
@[simp] theorem l16_1:q16_1.length=9:=rfl
instance:KR Try.f16.ntmps q16_1:=⟨[2],by kernel_rfl⟩
def m16:MCode:=.seq (.reg q16_0) (.seq (.reg q16_1) .ret)
theorem rc16:rcOf Try.prog Try.f16=some m16:=by kernel_rfl
theorem rv16:rRVs Try.prog Try.f16.results.toList=some [(.t 2)]:=by kernel_rfl
theorem nm16:(Try.f16.name == "runtime.NumGoroutine")=false:=by kernel_rfl
def q41_0:List MO:=[Ma 1 (.box (.t 0)),Ma 2 (.mv (.c (.bool false)))]
@[simp] theorem l41_0:q41_0.length=2:=rfl
instance:KR Try.f41.ntmps q41_0:=⟨[1],by kernel_rfl⟩
def q41_1:List MO:=[Ma 3 (.faddr 0 (.t 1)),Ma 4 (.load false 1 (.t 3)),Ma 5 (.bin .eql (.t 4) (.c (.int .i64 1))),Ma 6 (.mv (.t 5)),Mg 7 (.faddr 0 (.t 1)) 6 false,Mg 8 (.load false 1 (.t 7)) 6 false,Mg 9 (.bin .eql (.t 8) (.c (.int .i64 2))) 6 false,Ma 10 (.pick (.t 6) (.c (.bool true)) (.t 9)),Ma 2 (.mv (.t 10))]
@[simp] theorem l41_1:q41_1.length=9:=rfl
instance:KR Try.f41.ntmps q41_1:=⟨[2],by kernel_rfl⟩
def m41:MCode:=.seq (.reg q41_0) (.seq (.reg q41_1) .ret)
theorem rc41:rcOf Try.prog Try.f41=some m41:=by kernel_rfl
theorem rv41:rRVs Try.prog Try.f41.results.toList=some [(.t 2)]:=by kernel_rfl
theorem nm41:(Try.f41.name == "runtime.NumGoroutine")=false:=by kernel_rfl
def q98_0:List MO:=[Ma 1 (.box (.t 0)),Ma 2 (.mv (.c (.bool false)))]
@[simp] theorem l98_0:q98_0.length=2:=rfl
instance:KR Try.f98.ntmps q98_0:=⟨[1],by kernel_rfl⟩
def q98_1:List MO:=[Ma 3 (.faddr 0 (.t 1)),Ma 4 (.load false 1 (.t 3)),Ma 5 (.bin .geq (.t 4) (.c (.int .i64 5))),Ma 6 (.mv (.t 5)),Mg 7 (.faddr 0 (.t 1)) 6 true,Mg 8 (.load false 1 (.t 7)) 6 true,Mg 9 (.bin .leq (.t 8) (.c (.int .i64 8))) 6 true,Ma 10 (.pick (.t 6) (.t 9) (.c (.bool false))),Ma 2 (.mv (.t 10))]
@[simp] theorem l98_1:q98_1.length=9:=rfl
instance:KR Try.f98.ntmps q98_1:=⟨[2],by kernel_rfl⟩
def m98:MCode:=.seq (.reg q98_0) (.seq (.reg q98_1) .ret)
theorem rc98:rcOf Try.prog Try.f98=some m98:=by kernel_rfl
theorem rv98:rRVs Try.prog Try.f98.results.toList=some [(.t 2)]:=by kernel_rfl
theorem nm98:(Try.f98.name == "runtime.NumGoroutine")=false:=by kernel_rfl
def q93_0:List MO:=[Ma 1 (.box (.t 0)),Ma 2 (.alloc [(.int .i64 0),(.bool false),(.int .i64 0),(.int .i64 0),(.int .i64 0)])]
@[simp] theorem l93_0:q93_0.length=2:=rfl
instance:KR Try.f93.ntmps q93_0:=⟨[1,2],by kernel_rfl⟩
def q93_1:List MO:=[Ma 3 (.faddr 0 (.t 1)),Ma 4 (.load false 1 (.t 3))]
@[simp] theorem l93_1:q93_1.length=2:=rfl
instance:KR Try.f93.ntmps q93_1:=⟨[1,2,4],by kernel_rfl⟩
def q93_2:List MO:=[Ma 6 (.bin .eql (.t 4) (.c (.int .i64 1))),Ma 5 (.mv (.t 6))]
@[simp] theorem l93_2:q93_2.length=2:=rfl
instance:KR Try.f93.ntmps q93_2:=⟨[1,2,4,5],by kernel_rfl⟩
def q93_3:List MO:=[Ma 7 (.faddr 0 (.t 1)),Mb (.store 1 (.t 7) (.c (.int .i64 3)))]
@[simp] theorem l93_3:q93_3.length=2:=rfl
instance:KR Try.f93.ntmps q93_3:=⟨[1,2],by kernel_rfl⟩
def q93_4:List MO:=[Ma 9 (.bin .eql (.t 4) (.c (.int .i64 2))),Ma 8 (.mv (.t 9))]
@[simp] theorem l93_4:q93_4.length=2:=rfl
instance:KR Try.f93.ntmps q93_4:=⟨[1,2,8],by kernel_rfl⟩
def q93_5:List MO:=[Ma 10 (.faddr 0 (.t 1)),Mb (.store 1 (.t 10) (.c (.int .i64 4)))]
@[simp] theorem l93_5:q93_5.length=2:=rfl
instance:KR Try.f93.ntmps q93_5:=⟨[1,2],by kernel_rfl⟩
def q93_6:List MO:=[Ma 11 (.load true 5 (.t 1)),Mb (.store 5 (.t 2) (.t 11))]
@[simp] theorem l93_6:q93_6.length=2:=rfl
instance:KR Try.f93.ntmps q93_6:=⟨[2],by kernel_rfl⟩
def m93:MCode:=.seq (.reg q93_0) (.seq (.seq (.reg q93_1) (.block 0 (.seq (.reg q93_2) (.cond (.t 5) (.reg q93_3) (.seq (.reg q93_4) (.cond (.t 8) (.reg q93_5) .skip)))))) (.seq (.reg q93_6) .ret))
theorem rc93:rcOf Try.prog Try.f93=some m93:=by kernel_rfl
theorem rv93:rRVs Try.prog Try.f93.results.toList=some [(.c true 5 2)]:=by kernel_rfl
theorem nm93:(Try.f93.name == "runtime.NumGoroutine")=false:=by kernel_rfl
def q105_0:List MO:=[Ma 1 (.box (.t 0)),Ma 2 (.alloc [(.int .i64 0),(.bool false),(.int .i64 0),(.int .i64 0),(.int .i64 0)])]
@[simp] theorem l105_0:q105_0.length=2:=rfl
instance:KR Try.f105.ntmps q105_0:=⟨[1,2],by kernel_rfl⟩
def q105_1:List MO:=[Ma 3 (.faddr 0 (.t 1)),Ma 4 (.load false 1 (.t 3))]
@[simp] theorem l105_1:q105_1.length=2:=rfl
instance:KR Try.f105.ntmps q105_1:=⟨[1,2,4],by kernel_rfl⟩
def q105_2:List MO:=[Ma 6 (.bin .eql (.t 4) (.c (.int .i64 3))),Ma 5 (.mv (.t 6))]
@[simp] theorem l105_2:q105_2.length=2:=rfl
instance:KR Try.f105.ntmps q105_2:=⟨[1,2,4,5],by kernel_rfl⟩
def q105_3:List MO:=[Ma 7 (.faddr 0 (.t 1)),Mb (.store 1 (.t 7) (.c (.int .i64 1)))]
@[simp] theorem l105_3:q105_3.length=2:=rfl
instance:KR Try.f105.ntmps q105_3:=⟨[1,2],by kernel_rfl⟩
def q105_4:List MO:=[Ma 9 (.bin .eql (.t 4) (.c (.int .i64 4))),Ma 8 (.mv (.t 9))]
@[simp] theorem l105_4:q105_4.length=2:=rfl
instance:KR Try.f105.ntmps q105_4:=⟨[1,2,8],by kernel_rfl⟩
def q105_5:List MO:=[Ma 10 (.faddr 0 (.t 1)),Mb (.store 1 (.t 10) (.c (.int .i64 2)))]
@[simp] theorem l105_5:q105_5.length=2:=rfl
instance:KR Try.f105.ntmps q105_5:=⟨[1,2],by kernel_rfl⟩
def q105_6:List MO:=[Ma 11 (.load true 5 (.t 1)),Mb (.store 5 (.t 2) (.t 11))]
@[simp] theorem l105_6:q105_6.length=2:=rfl
instance:KR Try.f105.ntmps q105_6:=⟨[2],by kernel_rfl⟩
def m105:MCode:=.seq (.reg q105_0) (.seq (.seq (.reg q105_1) (.block 0 (.seq (.reg q105_2) (.cond (.t 5) (.reg q105_3) (.seq (.reg q105_4) (.cond (.t 8) (.reg q105_5) .skip)))))) (.seq (.reg q105_6) .ret))
theorem rc105:rcOf Try.prog Try.f105=some m105:=by kernel_rfl
theorem rv105:rRVs Try.prog Try.f105.results.toList=some [(.c true 5 2)]:=by kernel_rfl
theorem nm105:(Try.f105.name == "runtime.NumGoroutine")=false:=by kernel_rfl
def q104_0:List MO:=[Ma 2 (.box (.t 0)),Ma 4 (.alloc [(.int .i64 0),(.bool false),(.int .i64 0),(.int .i64 0),(.int .i64 0)])]
@[simp] theorem l104_0:q104_0.length=2:=rfl
instance:KR Try.f104.ntmps q104_0:=⟨[1,2,4],by kernel_rfl⟩
def q104_1:List MO:=[Ma 6 (.faddr 3 (.t 2)),Ma 7 (.load false 1 (.t 6)),Ma 8 (.bin .eql (.t 7) (.c (.int .i64 0))),Ma 5 (.mv (.t 8))]
@[simp] theorem l104_1:q104_1.length=4:=rfl
instance:KR Try.f104.ntmps q104_1:=⟨[1,2,4,5],by kernel_rfl⟩
def q104_2:List MO:=[Ma 9 (.faddr 0 (.t 2)),Mb (.store 1 (.t 9) (.c (.int .i64 5))),Ma 10 (.faddr 1 (.t 2)),Mb (.store 1 (.t 10) (.c (.bool false)))]
@[simp] theorem l104_2:q104_2.length=4:=rfl
instance:KR Try.f104.ntmps q104_2:=⟨[2,4],by kernel_rfl⟩
def q104_3:List MO:=[Ma 12 (.faddr 4 (.t 2)),Ma 13 (.load false 1 (.t 12)),Ma 14 (.mv (.t 1)),Ma 15 (.bin .geq (.t 13) (.t 14)),Ma 11 (.mv (.t 15))]
@[simp] theorem l104_3:q104_3.length=5:=rfl
instance:KR Try.f104.ntmps q104_3:=⟨[2,4,11],by kernel_rfl⟩
def q104_4:List MO:=[Ma 16 (.faddr 0 (.t 2)),Mb (.store 1 (.t 16) (.c (.int .i64 8))),Ma 17 (.faddr 1 (.t 2)),Mb (.store 1 (.t 17) (.c (.bool false)))]
@[simp] theorem l104_4:q104_4.length=4:=rfl
instance:KR Try.f104.ntmps q104_4:=⟨[2,4],by kernel_rfl⟩
def q104_5:List MO:=[Ma 18 (.load true 5 (.t 2)),Mb (.store 5 (.t 4) (.t 18))]
@[simp] theorem l104_5:q104_5.length=2:=rfl
instance:KR Try.f104.ntmps q104_5:=⟨[4],by kernel_rfl⟩
def m104:MCode:=.seq (.reg q104_0) (.seq (.block 0 (.seq (.reg q104_1) (.cond (.t 5) (.reg q104_2) (.seq (.reg q104_3) (.cond (.t 11) (.reg q104_4) .skip))))) (.seq (.reg q104_5) .ret))
theorem rc104:rcOf Try.prog Try.f104=some m104:=by kernel_rfl
theorem rv104:rRVs Try.prog Try.f104.results.toList=some [(.c true 5 4)]:=by kernel_rfl
theorem nm104:(Try.f104.name == "runtime.NumGoroutine")=false:=by kernel_rfl
def q96_0:List MO:=[Ma 3 (.box (.t 0)),Ma 6 (.alloc [(.int .i64 0),(.bool false),(.int .i64 0),(.int .i64 0),(.int .i64 0)]),Ma 7 (.mv (.c (.raw .nilIface)))]
@[simp] theorem l96_0:q96_0.length=3:=rfl
instance:KR Try.f96.ntmps q96_0:=⟨[1,2,3,6],by kernel_rfl⟩
def q96_1:List MO:=[Ma 9 (.load true 5 (.t 3)),Ma 10 (.call (.c (.fn 41 [])) [(.t 9)]),Ma 11 (.un .not (.t 10)),Ma 8 (.mv (.t 11))]
@[simp] theorem l96_1:q96_1.length=4:=rfl
instance:KR Try.f96.ntmps q96_1:=⟨[1,2,3,6,8],by kernel_rfl⟩
def q96_2:List MO:=[Ma 12 (.build [(.int .i64 0),(.bool false),(.int .i64 0),(.int .i64 0),(.int .i64 0)] []),Ma 13 (.mkif 132 (.c (.int .i64 27))),Mb (.store 5 (.t 6) (.t 12)),Ma 7 (.mv (.t 13))]
@[simp] theorem l96_2:q96_2.length=4:=rfl
instance:KR Try.f96.ntmps q96_2:=⟨[6,7],by kernel_rfl⟩
def q96_3:List MO:=[Ma 15 (.mv (.t 1)),Ma 16 (.bin .lss (.t 15) (.c (.int .i64 1))),Ma 17 (.mv (.t 16)),Mg 18 (.mv (.t 1)) 17 false,Mg 19 (.faddr 3 (.t 3)) 17 false,Mg 20 (.load false 1 (.t 19)) 17 false,Mg 21 (.bin .gtr (.t 18) (.t 20)) 17 false,Ma 22 (.pick (.t 17) (.c (.bool true)) (.t 21)),Ma 14 (.mv (.t 22))]
@[simp] theorem l96_3:q96_3.length=9:=rfl
instance:KR Try.f96.ntmps q96_3:=⟨[1,2,3,6,14],by kernel_rfl⟩
def q96_4:List MO:=[Ma 23 (.build [(.int .i64 0),(.bool false),(.int .i64 0),(.int .i64 0),(.int .i64 0)] []),Ma 24 (.mkif 132 (.c (.int .i64 23))),Mb (.store 5 (.t 6) (.t 23)),Ma 7 (.mv (.t 24))]
@[simp] theorem l96_4:q96_4.length=4:=rfl
instance:KR Try.f96.ntmps q96_4:=⟨[6,7],by kernel_rfl⟩
def q96_5:List MO:=[Ma 26 (.faddr 4 (.t 3)),Ma 27 (.load false 1 (.t 26)),Ma 28 (.mv (.t 2)),Ma 29 (.bin .geq (.t 27) (.t 28)),Ma 25 (.mv (.t 29))]
@[simp] theorem l96_5:q96_5.length=5:=rfl
instance:KR Try.f96.ntmps q96_5:=⟨[1,2,3,6,25],by kernel_rfl⟩
def q96_6:List MO:=[Ma 30 (.build [(.int .i64 0),(.bool false),(.int .i64 0),(.int .i64 0),(.int .i64 0)] []),Ma 31 (.mkif 132 (.c (.int .i64 4))),Mb (.store 5 (.t 6) (.t 30)),Ma 7 (.mv (.t 31))]
@[simp] theorem l96_6:q96_6.length=4:=rfl
instance:KR Try.f96.ntmps q96_6:=⟨[6,7],by kernel_rfl⟩
def q96_7:List MO:=[Ma 32 (.faddr 3 (.t 3)),Ma 33 (.load false 1 (.t 32)),Ma 34 (.mv (.t 1)),Ma 35 (.bin .sub (.t 33) (.t 34)),Ma 36 (.faddr 3 (.t 3)),Mb (.store 1 (.t 36) (.t 35))]
@[simp] theorem l96_7:q96_7.length=6:=rfl
instance:KR Try.f96.ntmps q96_7:=⟨[2,3,6],by kernel_rfl⟩
def q96_8:List MO:=[Ma 37 (.faddr 4 (.t 3)),Ma 38 (.load false 1 (.t 37)),Ma 39 (.bin .add (.t 38) (.c (.int .i64 1))),Ma 40 (.faddr 4 (.t 3)),Mb (.store 1 (.t 40) (.t 39))]
@[simp] theorem l96_8:q96_8.length=5:=rfl
instance:KR Try.f96.ntmps q96_8:=⟨[2,3,6],by kernel_rfl⟩
def q96_9:List MO:=[Ma 41 (.load true 5 (.t 3)),Ma 42 (.mv (.t 2)),Ma 43 (.call (.c (.fn 104 [])) [(.t 41),(.t 42)]),Mb (.store 5 (.t 6) (.t 43)),Ma 7 (.mv (.c (.raw .nilIface)))]
@[simp] theorem l96_9:q96_9.length=5:=rfl
instance:KR Try.f96.ntmps q96_9:=⟨[6,7],by kernel_rfl⟩
def m96:MCode:=.seq (.reg q96_0) (.seq (.block 0 (.seq (.reg q96_1) (.cond (.t 8) (.seq (.reg q96_2) .ret) (.seq (.reg q96_3) (.cond (.t 14) (.seq (.reg q96_4) .ret) (.seq (.reg q96_5) (.cond (.t 25) (.seq (.reg q96_6) .ret) .skip))))))) (.seq (.reg q96_7) (.seq (.reg q96_8) (.seq (.reg q96_9) .ret))))
theorem rc96:rcOf Try.prog Try.f96=some m96:=by kernel_rfl
theorem rv96:rRVs Try.prog Try.f96.results.toList=some [(.c true 5 6),(.t 7)]:=by kernel_rfl
theorem nm96:(Try.f96.name == "runtime.NumGoroutine")=false:=by kernel_rfl
def q97_0:List MO:=[Ma 3 (.box (.t 0)),Ma 6 (.alloc [(.int .i64 0),(.bool false),(.int .i64 0),(.int .i64 0),(.int .i64 0)]),Ma 7 (.mv (.c (.raw .nilIface)))]
@[simp] theorem l97_0:q97_0.length=3:=rfl
instance:KR Try.f97.ntmps q97_0:=⟨[1,2,3,6],by kernel_rfl⟩
def q97_1:List MO:=[Ma 9 (.load true 5 (.t 3)),Ma 10 (.call (.c (.fn 16 [])) [(.t 9)]),Ma 11 (.un .not (.t 10)),Ma 8 (.mv (.t 11))]
@[simp] theorem l97_1:q97_1.length=4:=rfl
instance:KR Try.f97.ntmps q97_1:=⟨[1,2,3,6,8],by kernel_rfl⟩
def q97_2:List MO:=[Ma 12 (.build [(.int .i64 0),(.bool false),(.int .i64 0),(.int .i64 0),(.int .i64 0)] []),Ma 13 (.mkif 132 (.c (.int .i64 1))),Mb (.store 5 (.t 6) (.t 12)),Ma 7 (.mv (.t 13))]
@[simp] theorem l97_2:q97_2.length=4:=rfl
instance:KR Try.f97.ntmps q97_2:=⟨[6,7],by kernel_rfl⟩
def q97_3:List MO:=[Ma 15 (.mv (.t 1)),Ma 16 (.bin .lss (.t 15) (.c (.int .i64 0))),Ma 17 (.mv (.t 16)),Mg 18 (.mv (.t 1)) 17 false,Mg 19 (.faddr 3 (.t 3)) 17 false,Mg 20 (.load false 1 (.t 19)) 17 false,Mg 21 (.bin .gtr (.t 18) (.t 20)) 17 false,Ma 22 (.pick (.t 17) (.c (.bool true)) (.t 21)),Ma 14 (.mv (.t 22))]
@[simp] theorem l97_3:q97_3.length=9:=rfl
instance:KR Try.f97.ntmps q97_3:=⟨[1,2,3,6,14],by kernel_rfl⟩
def q97_4:List MO:=[Ma 23 (.build [(.int .i64 0),(.bool false),(.int .i64 0),(.int .i64 0),(.int .i64 0)] []),Ma 24 (.mkif 132 (.c (.int .i64 23))),Mb (.store 5 (.t 6) (.t 23)),Ma 7 (.mv (.t 24))]
@[simp] theorem l97_4:q97_4.length=4:=rfl
instance:KR Try.f97.ntmps q97_4:=⟨[6,7],by kernel_rfl⟩
def q97_5:List MO:=[Ma 26 (.mv (.t 1)),Ma 27 (.bin .gtr (.t 26) (.c (.int .i64 0))),Ma 28 (.mv (.t 27)),Mg 29 (.faddr 4 (.t 3)) 28 true,Mg 30 (.load false 1 (.t 29)) 28 true,Mg 31 (.mv (.t 2)) 28 true,Mg 32 (.bin .geq (.t 30) (.t 31)) 28 true,Ma 33 (.pick (.t 28) (.t 32) (.c (.bool false))),Ma 25 (.mv (.t 33))]
@[simp] theorem l97_5:q97_5.length=9:=rfl
instance:KR Try.f97.ntmps q97_5:=⟨[1,2,3,6,25],by kernel_rfl⟩
def q97_6:List MO:=[Ma 34 (.build [(.int .i64 0),(.bool false),(.int .i64 0),(.int .i64 0),(.int .i64 0)] []),Ma 35 (.mkif 132 (.c (.int .i64 4))),Mb (.store 5 (.t 6) (.t 34)),Ma 7 (.mv (.t 35))]
@[simp] theorem l97_6:q97_6.length=4:=rfl
instance:KR Try.f97.ntmps q97_6:=⟨[6,7],by kernel_rfl⟩
def q97_7:List MO:=[Ma 36 (.mv (.t 1)),Ma 37 (.bin .gtr (.t 36) (.c (.int .i64 0)))]
@[simp] theorem l97_7:q97_7.length=2:=rfl
instance:KR Try.f97.ntmps q97_7:=⟨[1,2,3,6,37],by kernel_rfl⟩
def q97_8:List MO:=[Ma 38 (.faddr 3 (.t 3)),Ma 39 (.load false 1 (.t 38)),Ma 40 (.mv (.t 1)),Ma 41 (.bin .sub (.t 39) (.t 40)),Ma 42 (.faddr 3 (.t 3)),Mb (.store 1 (.t 42) (.t 41))]
@[simp] theorem l97_8:q97_8.length=6:=rfl
instance:KR Try.f97.ntmps q97_8:=⟨[2,3,6],by kernel_rfl⟩
def q97_9:List MO:=[Ma 43 (.faddr 4 (.t 3)),Ma 44 (.load false 1 (.t 43)),Ma 45 (.bin .add (.t 44) (.c (.int .i64 1))),Ma 46 (.faddr 4 (.t 3)),Mb (.store 1 (.t 46) (.t 45))]
@[simp] theorem l97_9:q97_9.length=5:=rfl
instance:KR Try.f97.ntmps q97_9:=⟨[2,3,6],by kernel_rfl⟩
def q97_10:List MO:=[Ma 47 (.load true 5 (.t 3)),Ma 48 (.call (.c (.fn 105 [])) [(.t 47)]),Ma 49 (.mv (.t 2)),Ma 50 (.call (.c (.fn 104 [])) [(.t 48),(.t 49)]),Mb (.store 5 (.t 3) (.t 50))]
@[simp] theorem l97_10:q97_10.length=5:=rfl
instance:KR Try.f97.ntmps q97_10:=⟨[3,6],by kernel_rfl⟩
def q97_11:List MO:=[Ma 51 (.faddr 1 (.t 3)),Ma 52 (.load false 1 (.t 51))]
@[simp] theorem l97_11:q97_11.length=2:=rfl
instance:KR Try.f97.ntmps q97_11:=⟨[3,6,52],by kernel_rfl⟩
def q97_12:List MO:=[Ma 53 (.faddr 0 (.t 3)),Mb (.store 1 (.t 53) (.c (.int .i64 6))),Ma 54 (.faddr 1 (.t 3)),Mb (.store 1 (.t 54) (.c (.bool false)))]
@[simp] theorem l97_12:q97_12.length=4:=rfl
instance:KR Try.f97.ntmps q97_12:=⟨[3,6],by kernel_rfl⟩
def q97_13:List MO:=[Ma 55 (.load true 5 (.t 3)),Mb (.store 5 (.t 6) (.t 55)),Ma 7 (.mv (.c (.raw .nilIface)))]
@[simp] theorem l97_13:q97_13.length=3:=rfl
instance:KR Try.f97.ntmps q97_13:=⟨[6,7],by kernel_rfl⟩
def m97:MCode:=.seq (.reg q97_0) (.seq (.block 0 (.seq (.reg q97_1) (.cond (.t 8) (.seq (.reg q97_2) .ret) (.seq (.reg q97_3) (.cond (.t 14) (.seq (.reg q97_4) .ret) (.seq (.reg q97_5) (.cond (.t 25) (.seq (.reg q97_6) .ret) .skip))))))) (.seq (.seq (.reg q97_7) (.cond (.t 37) (.seq (.reg q97_8) (.reg q97_9)) .skip)) (.seq (.seq (.reg q97_10) (.seq (.reg q97_11) (.cond (.t 52) (.reg q97_12) .skip))) (.seq (.reg q97_13) .ret))))
theorem rc97:rcOf Try.prog Try.f97=some m97:=by kernel_rfl
theorem rv97:rRVs Try.prog Try.f97.results.toList=some [(.c true 5 6),(.t 7)]:=by kernel_rfl
theorem nm97:(Try.f97.name == "runtime.NumGoroutine")=false:=by kernel_rfl
def q25_0:List MO:=[Ma 1 (.box (.t 0)),Ma 2 (.alloc [(.int .i64 0),(.bool false),(.int .i64 0),(.int .i64 0),(.int .i64 0)]),Ma 3 (.mv (.c (.raw .nilIface)))]
@[simp] theorem l25_0:q25_0.length=3:=rfl
instance:KR Try.f25.ntmps q25_0:=⟨[1,2],by kernel_rfl⟩
def q25_1:List MO:=[Ma 4 (.faddr 0 (.t 1)),Ma 5 (.load false 1 (.t 4))]
@[simp] theorem l25_1:q25_1.length=2:=rfl
instance:KR Try.f25.ntmps q25_1:=⟨[1,2,5],by kernel_rfl⟩
def q25_2:List MO:=[Ma 7 (.bin .eql (.t 5) (.c (.int .i64 1))),Ma 6 (.mv (.t 7))]
@[simp] theorem l25_2:q25_2.length=2:=rfl
instance:KR Try.f25.ntmps q25_2:=⟨[1,2,5,6],by kernel_rfl⟩
def q25_3:List MO:=[Ma 9 (.bin .eql (.t 5) (.c (.int .i64 2))),Ma 8 (.mv (.t 9))]
@[simp] theorem l25_3:q25_3.length=2:=rfl
instance:KR Try.f25.ntmps q25_3:=⟨[1,2,5,8],by kernel_rfl⟩
def q25_4:List MO:=[Ma 11 (.bin .eql (.t 5) (.c (.int .i64 3))),Ma 10 (.mv (.t 11))]
@[simp] theorem l25_4:q25_4.length=2:=rfl
instance:KR Try.f25.ntmps q25_4:=⟨[1,2,5,10],by kernel_rfl⟩
def q25_5:List MO:=[Ma 13 (.bin .eql (.t 5) (.c (.int .i64 4))),Ma 12 (.mv (.t 13))]
@[simp] theorem l25_5:q25_5.length=2:=rfl
instance:KR Try.f25.ntmps q25_5:=⟨[1,2,12],by kernel_rfl⟩
def q25_6:List MO:=[Ma 14 (.faddr 0 (.t 1)),Mb (.store 1 (.t 14) (.c (.int .i64 6)))]
@[simp] theorem l25_6:q25_6.length=2:=rfl
instance:KR Try.f25.ntmps q25_6:=⟨[1,2],by kernel_rfl⟩
def q25_7:List MO:=[Ma 15 (.faddr 1 (.t 1)),Mb (.store 1 (.t 15) (.c (.bool true)))]
@[simp] theorem l25_7:q25_7.length=2:=rfl
instance:KR Try.f25.ntmps q25_7:=⟨[1,2],by kernel_rfl⟩
def q25_8:List MO:=[Ma 16 (.build [(.int .i64 0),(.bool false),(.int .i64 0),(.int .i64 0),(.int .i64 0)] []),Ma 17 (.mkif 132 (.c (.int .i64 29))),Mb (.store 5 (.t 2) (.t 16)),Ma 3 (.mv (.t 17))]
@[simp] theorem l25_8:q25_8.length=4:=rfl
instance:KR Try.f25.ntmps q25_8:=⟨[2,3],by kernel_rfl⟩
def q25_9:List MO:=[Ma 18 (.load true 5 (.t 1)),Mb (.store 5 (.t 2) (.t 18)),Ma 3 (.mv (.c (.raw .nilIface)))]
@[simp] theorem l25_9:q25_9.length=3:=rfl
instance:KR Try.f25.ntmps q25_9:=⟨[2,3],by kernel_rfl⟩
def m25:MCode:=.seq (.reg q25_0) (.seq (.seq (.reg q25_1) (.block 0 (.seq (.block 5 (.seq (.block 4 (.block 3 (.seq (.block 2 (.block 1 (.seq (.seq (.seq (.reg q25_2) (.cond (.t 6) (.exit 1) .skip)) (.seq (.seq (.reg q25_3) (.cond (.t 8) (.exit 2) .skip)) (.seq (.seq (.reg q25_4) (.cond (.t 10) (.exit 3) .skip)) (.seq (.reg q25_5) (.cond (.t 12) (.exit 4) .skip))))) (.exit 5)))) (.seq (.reg q25_6) (.exit 0))))) (.seq (.reg q25_7) (.exit 0)))) (.seq (.seq (.reg q25_8) .ret) (.exit 0))))) (.seq (.reg q25_9) .ret))
theorem rc25:rcOf Try.prog Try.f25=some m25:=by kernel_rfl
theorem rv25:rRVs Try.prog Try.f25.results.toList=some [(.c true 5 2),(.t 3)]:=by kernel_rfl
theorem nm25:(Try.f25.name == "runtime.NumGoroutine")=false:=by kernel_rfl
def q57_0:List MO:=[Ma 4 (.mv (.c (.raw .nilIface)))]
@[simp] theorem l57_0:q57_0.length=1:=rfl
instance:KR Try.f57.ntmps q57_0:=⟨[0,1],by kernel_rfl⟩
def q57_1:List MO:=[Ma 6 (.mv (.t 0)),Ma 7 (.eq false .ptr (.t 6) (.c (.raw (.pointer none)))),Ma 5 (.mv (.t 7))]
@[simp] theorem l57_1:q57_1.length=3:=rfl
instance:KR Try.f57.ntmps q57_1:=⟨[0,1,5],by kernel_rfl⟩
def q57_2:List MO:=[Ma 8 (.mkif 132 (.c (.int .i64 2))),Ma 4 (.mv (.t 8))]
@[simp] theorem l57_2:q57_2.length=2:=rfl
instance:KR Try.f57.ntmps q57_2:=⟨[4],by kernel_rfl⟩
def q57_3:List MO:=[Ma 10 (.mv (.t 1)),Ma 11 (.bin .lss (.t 10) (.c (.int .i64 0))),Ma 12 (.mv (.t 11)),Mg 13 (.mv (.t 1)) 12 false,Mg 14 (.mv (.t 0)) 12 false,Mg 15 (.nilck (.t 14)) 12 false,Mg 16 (.faddr 0 (.t 15)) 12 false,Mg 17 (.load false 1 (.t 16)) 12 false,Mg 18 (.len (.t 17)) 12 false,Mg 19 (.bin .geq (.t 13) (.t 18)) 12 false,Ma 20 (.pick (.t 12) (.c (.bool true)) (.t 19)),Ma 9 (.mv (.t 20))]
@[simp] theorem l57_3:q57_3.length=12:=rfl
instance:KR Try.f57.ntmps q57_3:=⟨[1,9],by kernel_rfl⟩
def q57_4:List MO:=[Ma 21 (.mv (.t 1)),Ma 22 (.mkif 132 (.c (.int .i64 5))),Ma 23 (.call (.c (.fn 71 [])) [(.t 21),(.t 22)]),Ma 4 (.mv (.t 23))]
@[simp] theorem l57_4:q57_4.length=4:=rfl
instance:KR Try.f57.ntmps q57_4:=⟨[4],by kernel_rfl⟩
def q57_5:List MO:=[Ma 4 (.mv (.c (.raw .nilIface)))]
@[simp] theorem l57_5:q57_5.length=1:=rfl
instance:KR Try.f57.ntmps q57_5:=⟨[4],by kernel_rfl⟩
def m57:MCode:=.seq (.reg q57_0) (.seq (.block 0 (.seq (.reg q57_1) (.cond (.t 5) (.seq (.reg q57_2) .ret) (.seq (.reg q57_3) (.cond (.t 9) (.seq (.reg q57_4) .ret) .skip))))) (.seq (.reg q57_5) .ret))
theorem rc57:rcOf Try.prog Try.f57=some m57:=by kernel_rfl
theorem rv57:rRVs Try.prog Try.f57.results.toList=some [(.t 4)]:=by kernel_rfl
theorem nm57:(Try.f57.name == "runtime.NumGoroutine")=false:=by kernel_rfl
def q58_0:List MO:=[Ma 3 (.box (.t 1))]
@[simp] theorem l58_0:q58_0.length=1:=rfl
instance:KR Try.f58.ntmps q58_0:=⟨[0,3],by kernel_rfl⟩
def q58_1:List MO:=[Ma 4 (.mv (.t 0)),Ma 5 (.nilck (.t 4)),Ma 6 (.faddr 1 (.t 5)),Ma 7 (.load false 1 (.t 6)),Ma 8 (.bin .add (.t 7) (.c (.int .i64 1))),Ma 9 (.nilck (.t 4)),Ma 10 (.faddr 1 (.t 9)),Mb (.store 1 (.t 10) (.t 8))]
@[simp] theorem l58_1:q58_1.length=8:=rfl
instance:KR Try.f58.ntmps q58_1:=⟨[0,3],by kernel_rfl⟩
def q58_2:List MO:=[Ma 11 (.mv (.t 0)),Ma 12 (.load true 5 (.t 3)),Ma 13 (.nilck (.t 11)),Ma 14 (.faddr 2 (.t 13)),Mb (.store 5 (.t 14) (.t 12))]
@[simp] theorem l58_2:q58_2.length=5:=rfl
instance:KR Try.f58.ntmps q58_2:=⟨[],by kernel_rfl⟩
def m58:MCode:=.seq (.reg q58_0) (.seq (.reg q58_1) (.reg q58_2))
theorem rc58:rcOf Try.prog Try.f58=some m58:=by kernel_rfl
theorem rv58:rRVs Try.prog Try.f58.results.toList=some []:=by kernel_rfl
theorem nm58:(Try.f58.name == "runtime.NumGoroutine")=false:=by kernel_rfl
def q19_0:List MO:=[Ma 4 (.mv (.c (.int .u64 0))),Ma 5 (.mv (.c (.raw .nilIface)))]
@[simp] theorem l19_0:q19_0.length=2:=rfl
instance:KR Try.f19.ntmps q19_0:=⟨[0,1],by kernel_rfl⟩
def q19_1:List MO:=[Ma 8 (.mv (.t 0)),Ma 9 (.mv (.t 1)),Ma 10 (.call (.c (.fn 57 [])) [(.t 8),(.t 9)]),Ma 6 (.mv (.t 10))]
@[simp] theorem l19_1:q19_1.length=4:=rfl
instance:KR Try.f19.ntmps q19_1:=⟨[0,1,6],by kernel_rfl⟩
def q19_2:List MO:=[Ma 11 (.mv (.t 6)),Ma 12 (.eq true .iface (.t 11) (.c (.raw .nilIface)))]
@[simp] theorem l19_2:q19_2.length=2:=rfl
instance:KR Try.f19.ntmps q19_2:=⟨[0,1,6,12],by kernel_rfl⟩
def q19_3:List MO:=[Ma 13 (.mv (.t 6)),Ma 4 (.mv (.c (.int .u64 0))),Ma 5 (.mv (.t 13))]
@[simp] theorem l19_3:q19_3.length=3:=rfl
instance:KR Try.f19.ntmps q19_3:=⟨[4,5],by kernel_rfl⟩
def q19_4:List MO:=[Ma 14 (.mv (.t 0)),Ma 15 (.nilck (.t 14)),Ma 16 (.faddr 0 (.t 15)),Ma 17 (.load false 1 (.t 16)),Ma 18 (.mv (.t 1)),Ma 19 (.iaddr 1 (.t 17) (.t 18)),Ma 20 (.load false 1 (.t 19)),Ma 7 (.mv (.t 20))]
@[simp] theorem l19_4:q19_4.length=8:=rfl
instance:KR Try.f19.ntmps q19_4:=⟨[0,1,7],by kernel_rfl⟩
def q19_5:List MO:=[Ma 21 (.mv (.t 0)),Ma 22 (.mv (.t 1)),Ma 23 (.mv (.t 7)),Ma 24 (.mv (.t 7)),Ma 25 (.build [(.int .i64 0),(.int .i64 0),(.int .u64 0),(.int .u64 0),(.bool false)] [(0,(1,(.c (.int .i64 1)))),(1,(1,(.t 22))),(2,(1,(.t 23))),(3,(1,(.t 24))),(4,(1,(.c (.bool true))))]),Ma 26 (.call (.c (.fn 58 [])) [(.t 21),(.t 25)])]
@[simp] theorem l19_5:q19_5.length=6:=rfl
instance:KR Try.f19.ntmps q19_5:=⟨[7],by kernel_rfl⟩
def q19_6:List MO:=[Ma 27 (.mv (.t 7)),Ma 4 (.mv (.t 27)),Ma 5 (.mv (.c (.raw .nilIface)))]
@[simp] theorem l19_6:q19_6.length=3:=rfl
instance:KR Try.f19.ntmps q19_6:=⟨[4,5],by kernel_rfl⟩
def m19:MCode:=.seq (.reg q19_0) (.seq (.seq (.reg q19_1) (.seq (.reg q19_2) (.cond (.t 12) (.seq (.reg q19_3) .ret) .skip))) (.seq (.reg q19_4) (.seq (.reg q19_5) (.seq (.reg q19_6) .ret))))
theorem rc19:rcOf Try.prog Try.f19=some m19:=by kernel_rfl
theorem rv19:rRVs Try.prog Try.f19.results.toList=some [(.t 4),(.t 5)]:=by kernel_rfl
theorem nm19:(Try.f19.name == "runtime.NumGoroutine")=false:=by kernel_rfl
def q49_0:List MO:=[Ma 6 (.mv (.c (.raw .nilIface)))]
@[simp] theorem l49_0:q49_0.length=1:=rfl
instance:KR Try.f49.ntmps q49_0:=⟨[0,1,2],by kernel_rfl⟩
def q49_1:List MO:=[Ma 8 (.mv (.t 0)),Ma 9 (.mv (.t 1)),Ma 10 (.call (.c (.fn 57 [])) [(.t 8),(.t 9)]),Ma 7 (.mv (.t 10))]
@[simp] theorem l49_1:q49_1.length=4:=rfl
instance:KR Try.f49.ntmps q49_1:=⟨[0,1,2,7],by kernel_rfl⟩
def q49_2:List MO:=[Ma 11 (.mv (.t 7)),Ma 12 (.eq true .iface (.t 11) (.c (.raw .nilIface)))]
@[simp] theorem l49_2:q49_2.length=2:=rfl
instance:KR Try.f49.ntmps q49_2:=⟨[0,1,2,7,12],by kernel_rfl⟩
def q49_3:List MO:=[Ma 13 (.mv (.t 7)),Ma 6 (.mv (.t 13))]
@[simp] theorem l49_3:q49_3.length=2:=rfl
instance:KR Try.f49.ntmps q49_3:=⟨[6],by kernel_rfl⟩
def q49_4:List MO:=[Ma 14 (.mv (.t 0)),Ma 15 (.mv (.t 1)),Ma 16 (.mv (.t 0)),Ma 17 (.nilck (.t 16)),Ma 18 (.faddr 0 (.t 17)),Ma 19 (.load false 1 (.t 18)),Ma 20 (.mv (.t 1)),Ma 21 (.iaddr 1 (.t 19) (.t 20)),Ma 22 (.load false 1 (.t 21)),Ma 23 (.mv (.t 2)),Ma 24 (.build [(.int .i64 0),(.int .i64 0),(.int .u64 0),(.int .u64 0),(.bool false)] [(0,(1,(.c (.int .i64 2)))),(1,(1,(.t 15))),(2,(1,(.t 22))),(3,(1,(.t 23))),(4,(1,(.c (.bool true))))]),Ma 25 (.call (.c (.fn 58 [])) [(.t 14),(.t 24)])]
@[simp] theorem l49_4:q49_4.length=12:=rfl
instance:KR Try.f49.ntmps q49_4:=⟨[0,1,2],by kernel_rfl⟩
def q49_5:List MO:=[Ma 26 (.mv (.t 0)),Ma 27 (.nilck (.t 26)),Ma 28 (.faddr 0 (.t 27)),Ma 29 (.load false 1 (.t 28)),Ma 30 (.mv (.t 1)),Ma 31 (.mv (.t 2)),Ma 32 (.iaddr 1 (.t 29) (.t 30)),Mb (.store 1 (.t 32) (.t 31))]
@[simp] theorem l49_5:q49_5.length=8:=rfl
instance:KR Try.f49.ntmps q49_5:=⟨[],by kernel_rfl⟩
def q49_6:List MO:=[Ma 6 (.mv (.c (.raw .nilIface)))]
@[simp] theorem l49_6:q49_6.length=1:=rfl
instance:KR Try.f49.ntmps q49_6:=⟨[6],by kernel_rfl⟩
def m49:MCode:=.seq (.reg q49_0) (.seq (.seq (.reg q49_1) (.seq (.reg q49_2) (.cond (.t 12) (.seq (.reg q49_3) .ret) .skip))) (.seq (.reg q49_4) (.seq (.reg q49_5) (.seq (.reg q49_6) .ret))))
theorem rc49:rcOf Try.prog Try.f49=some m49:=by kernel_rfl
theorem rv49:rRVs Try.prog Try.f49.results.toList=some [(.t 6)]:=by kernel_rfl
theorem nm49:(Try.f49.name == "runtime.NumGoroutine")=false:=by kernel_rfl
def q63_0:List MO:=[Ma 8 (.mv (.c (.bool false))),Ma 9 (.mv (.c (.raw .nilIface)))]
@[simp] theorem l63_0:q63_0.length=2:=rfl
instance:KR Try.f63.ntmps q63_0:=⟨[0,1,2,3],by kernel_rfl⟩
def q63_1:List MO:=[Ma 12 (.mv (.t 0)),Ma 13 (.mv (.t 1)),Ma 14 (.call (.c (.fn 57 [])) [(.t 12),(.t 13)]),Ma 10 (.mv (.t 14))]
@[simp] theorem l63_1:q63_1.length=4:=rfl
instance:KR Try.f63.ntmps q63_1:=⟨[0,1,2,3,10],by kernel_rfl⟩
def q63_2:List MO:=[Ma 15 (.mv (.t 10)),Ma 16 (.eq true .iface (.t 15) (.c (.raw .nilIface)))]
@[simp] theorem l63_2:q63_2.length=2:=rfl
instance:KR Try.f63.ntmps q63_2:=⟨[0,1,2,3,10,16],by kernel_rfl⟩
def q63_3:List MO:=[Ma 17 (.mv (.t 10)),Ma 8 (.mv (.c (.bool false))),Ma 9 (.mv (.t 17))]
@[simp] theorem l63_3:q63_3.length=3:=rfl
instance:KR Try.f63.ntmps q63_3:=⟨[8,9],by kernel_rfl⟩
def q63_4:List MO:=[Ma 18 (.mv (.t 1)),Ma 19 (.mv (.t 0)),Ma 20 (.nilck (.t 19)),Ma 21 (.faddr 0 (.t 20)),Ma 22 (.load false 1 (.t 21)),Ma 23 (.mv (.t 1)),Ma 24 (.iaddr 1 (.t 22) (.t 23)),Ma 25 (.load false 1 (.t 24)),Ma 26 (.mv (.t 0)),Ma 27 (.nilck (.t 26)),Ma 28 (.faddr 0 (.t 27)),Ma 29 (.load false 1 (.t 28)),Ma 30 (.mv (.t 1)),Ma 31 (.iaddr 1 (.t 29) (.t 30)),Ma 32 (.load false 1 (.t 31)),Ma 33 (.mv (.t 0)),Ma 34 (.nilck (.t 33)),Ma 35 (.faddr 0 (.t 34)),Ma 36 (.load false 1 (.t 35)),Ma 37 (.mv (.t 1)),Ma 38 (.iaddr 1 (.t 36) (.t 37)),Ma 39 (.load false 1 (.t 38)),Ma 40 (.mv (.t 2)),Ma 41 (.bin .eql (.t 39) (.t 40)),Ma 42 (.build [(.int .i64 0),(.int .i64 0),(.int .u64 0),(.int .u64 0),(.bool false)] [(0,(1,(.c (.int .i64 3)))),(1,(1,(.t 18))),(2,(1,(.t 25))),(3,(1,(.t 32))),(4,(1,(.t 41)))]),Ma 11 (.alloc [(.int .i64 0),(.int .i64 0),(.int .u64 0),(.int .u64 0),(.bool false)]),Mb (.store 5 (.t 11) (.t 42))]
@[simp] theorem l63_4:q63_4.length=27:=rfl
def p63_4:List (List Nat):=[[],[],[1],[2],[3],[],[4,5],[6],[],[8],[9],[10],[],[11,12],[13],[],[15],[16],[17],[],[18,19],[20],[],[21,22],[0,7,14,23],[],[25,24,0,1,2,3,4,5,6,7,8,9,10,11,12,13,14,15,16,17,18,19,20,21,22,23,24,25]]
instance:KD Try.f63.ntmps q63_4 p63_4:=⟨[[],[],[1],[1,2],[1,2,3],[],[1,2,3,4,5],[1,2,3,4,5,6],[],[8],[8,9],[8,9,10],[],[8,9,10,11,12],[8,9,10,11,12,13],[],[15],[15,16],[15,16,17],[],[15,16,17,18,19],[15,16,17,18,19,20],[],[15,16,17,18,19,20,21,22],[0,1,2,3,4,5,6,7,8,9,10,11,12,13,14,15,16,17,18,19,20,21,22,23],[],[0,1,2,3,4,5,6,7,8,9,10,11,12,13,14,15,16,17,18,19,20,21,22,23,24,25]],[0,1,3,11],by kernel_rfl⟩
def q63_5:List MO:=[Ma 43 (.faddr 4 (.t 11)),Ma 44 (.load false 1 (.t 43))]
@[simp] theorem l63_5:q63_5.length=2:=rfl
instance:KR Try.f63.ntmps q63_5:=⟨[0,1,3,11,44],by kernel_rfl⟩
def q63_6:List MO:=[Ma 45 (.mv (.t 3)),Ma 46 (.faddr 3 (.t 11)),Mb (.store 1 (.t 46) (.t 45))]
@[simp] theorem l63_6:q63_6.length=3:=rfl
instance:KR Try.f63.ntmps q63_6:=⟨[0,1,3,11],by kernel_rfl⟩
def q63_7:List MO:=[Ma 47 (.mv (.t 0)),Ma 48 (.nilck (.t 47)),Ma 49 (.faddr 0 (.t 48)),Ma 50 (.load false 1 (.t 49)),Ma 51 (.mv (.t 1)),Ma 52 (.mv (.t 3)),Ma 53 (.iaddr 1 (.t 50) (.t 51)),Mb (.store 1 (.t 53) (.t 52))]
@[simp] theorem l63_7:q63_7.length=8:=rfl
instance:KR Try.f63.ntmps q63_7:=⟨[0,11],by kernel_rfl⟩
def q63_8:List MO:=[Ma 54 (.mv (.t 0)),Ma 55 (.load true 5 (.t 11)),Ma 56 (.call (.c (.fn 58 [])) [(.t 54),(.t 55)])]
@[simp] theorem l63_8:q63_8.length=3:=rfl
instance:KR Try.f63.ntmps q63_8:=⟨[11],by kernel_rfl⟩
def q63_9:List MO:=[Ma 57 (.faddr 4 (.t 11)),Ma 58 (.load false 1 (.t 57)),Ma 8 (.mv (.t 58)),Ma 9 (.mv (.c (.raw .nilIface)))]
@[simp] theorem l63_9:q63_9.length=4:=rfl
instance:KR Try.f63.ntmps q63_9:=⟨[8,9],by kernel_rfl⟩
def m63:MCode:=.seq (.reg q63_0) (.seq (.seq (.reg q63_1) (.seq (.reg q63_2) (.cond (.t 16) (.seq (.reg q63_3) .ret) .skip))) (.seq (.draw q63_4 p63_4) (.seq (.seq (.reg q63_5) (.cond (.t 44) (.seq (.reg q63_6) (.reg q63_7)) .skip)) (.seq (.reg q63_8) (.seq (.reg q63_9) .ret)))))
theorem rc63:rcOf Try.prog Try.f63=some m63:=by kernel_rfl
theorem rv63:rRVs Try.prog Try.f63.results.toList=some [(.t 8),(.t 9)]:=by kernel_rfl
theorem nm63:(Try.f63.name == "runtime.NumGoroutine")=false:=by kernel_rfl
def q22_0:List MO:=[Ma 2 (.mv (.c (.int .i64 0)))]
@[simp] theorem l22_0:q22_0.length=1:=rfl
instance:KR Try.f22.ntmps q22_0:=⟨[0],by kernel_rfl⟩
def q22_1:List MO:=[Ma 3 (.mv (.t 0)),Ma 4 (.eq false .ptr (.t 3) (.c (.raw (.pointer none))))]
@[simp] theorem l22_1:q22_1.length=2:=rfl
instance:KR Try.f22.ntmps q22_1:=⟨[0,4],by kernel_rfl⟩
def q22_2:List MO:=[Ma 2 (.mv (.c (.int .i64 0)))]
@[simp] theorem l22_2:q22_2.length=1:=rfl
instance:KR Try.f22.ntmps q22_2:=⟨[2],by kernel_rfl⟩
def q22_3:List MO:=[Ma 5 (.mv (.t 0)),Ma 6 (.nilck (.t 5)),Ma 7 (.faddr 1 (.t 6)),Ma 8 (.load false 1 (.t 7)),Ma 2 (.mv (.t 8))]
@[simp] theorem l22_3:q22_3.length=5:=rfl
instance:KR Try.f22.ntmps q22_3:=⟨[2],by kernel_rfl⟩
def m22:MCode:=.seq (.reg q22_0) (.seq (.seq (.reg q22_1) (.cond (.t 4) (.seq (.reg q22_2) .ret) .skip)) (.seq (.reg q22_3) .ret))
theorem rc22:rcOf Try.prog Try.f22=some m22:=by kernel_rfl
theorem rv22:rRVs Try.prog Try.f22.results.toList=some [(.t 2)]:=by kernel_rfl
theorem nm22:(Try.f22.name == "runtime.NumGoroutine")=false:=by kernel_rfl
def q73_0:List MO:=[Ma 2 (.mv (.c (.raw (.pointer none)))),Ma 3 (.mv (.c (.raw .nilIface)))]
@[simp] theorem l73_0:q73_0.length=2:=rfl
instance:KR Try.f73.ntmps q73_0:=⟨[0],by kernel_rfl⟩
def q73_1:List MO:=[Ma 4 (.mv (.t 0)),Ma 5 (.bin .lss (.t 4) (.c (.int .i64 0))),Ma 6 (.mv (.t 5)),Mg 7 (.mv (.t 0)) 6 false,Mg 8 (.bin .gtr (.t 7) (.c (.int .i64 8192))) 6 false,Ma 9 (.pick (.t 6) (.c (.bool true)) (.t 8))]
@[simp] theorem l73_1:q73_1.length=6:=rfl
instance:KR Try.f73.ntmps q73_1:=⟨[0,9],by kernel_rfl⟩
def q73_2:List MO:=[Ma 10 (.mkif 132 (.c (.int .i64 4))),Ma 2 (.mv (.c (.raw (.pointer none)))),Ma 3 (.mv (.t 10))]
@[simp] theorem l73_2:q73_2.length=3:=rfl
instance:KR Try.f73.ntmps q73_2:=⟨[2,3],by kernel_rfl⟩
def q73_3:List MO:=[Ma 11 (.mv (.t 0)),Ma 12 (.mks 1 8 [(.int .u64 0)] (.t 11) (.t 11)),Ma 13 (.build [.nsl,(.int .i64 0),(.int .i64 0),(.int .i64 0),(.int .u64 0),(.int .u64 0),(.bool false)] [(0,(1,(.t 12)))]),Ma 14 (.box (.t 13)),Ma 2 (.mv (.t 14)),Ma 3 (.mv (.c (.raw .nilIface)))]
@[simp] theorem l73_3:q73_3.length=6:=rfl
instance:KR Try.f73.ntmps q73_3:=⟨[2,3],by kernel_rfl⟩
def m73:MCode:=.seq (.reg q73_0) (.seq (.seq (.reg q73_1) (.cond (.t 9) (.seq (.reg q73_2) .ret) .skip)) (.seq (.reg q73_3) .ret))
theorem rc73:rcOf Try.prog Try.f73=some m73:=by kernel_rfl
theorem rv73:rRVs Try.prog Try.f73.results.toList=some [(.t 2),(.t 3)]:=by kernel_rfl
theorem nm73:(Try.f73.name == "runtime.NumGoroutine")=false:=by kernel_rfl
def q24_0:List MO:=[Ma 2 (.mv (.c (.int .i64 0)))]
@[simp] theorem l24_0:q24_0.length=1:=rfl
instance:KR Try.f24.ntmps q24_0:=⟨[0],by kernel_rfl⟩
def q24_1:List MO:=[Ma 3 (.mv (.t 0)),Ma 4 (.eq false .ptr (.t 3) (.c (.raw (.pointer none))))]
@[simp] theorem l24_1:q24_1.length=2:=rfl
instance:KR Try.f24.ntmps q24_1:=⟨[0,4],by kernel_rfl⟩
def q24_2:List MO:=[Ma 2 (.mv (.c (.int .i64 0)))]
@[simp] theorem l24_2:q24_2.length=1:=rfl
instance:KR Try.f24.ntmps q24_2:=⟨[2],by kernel_rfl⟩
def q24_3:List MO:=[Ma 5 (.mv (.t 0)),Ma 6 (.nilck (.t 5)),Ma 7 (.faddr 0 (.t 6)),Ma 8 (.load false 1 (.t 7)),Ma 9 (.conv .i64 (.t 8)),Ma 2 (.mv (.t 9))]
@[simp] theorem l24_3:q24_3.length=6:=rfl
instance:KR Try.f24.ntmps q24_3:=⟨[2],by kernel_rfl⟩
def m24:MCode:=.seq (.reg q24_0) (.seq (.seq (.reg q24_1) (.cond (.t 4) (.seq (.reg q24_2) .ret) .skip)) (.seq (.reg q24_3) .ret))
theorem rc24:rcOf Try.prog Try.f24=some m24:=by kernel_rfl
theorem rv24:rRVs Try.prog Try.f24.results.toList=some [(.t 2)]:=by kernel_rfl
theorem nm24:(Try.f24.name == "runtime.NumGoroutine")=false:=by kernel_rfl
def q95_0:List MO:=[Ma 4 (.box (.t 0)),Ma 5 (.box (.t 1)),Ma 8 (.alloc [(.int .i64 0),(.int .i64 0)])]
@[simp] theorem l95_0:q95_0.length=3:=rfl
instance:KR Try.f95.ntmps q95_0:=⟨[2,3,4,5,8],by kernel_rfl⟩
def q95_1:List MO:=[Ma 12 (.load true 5 (.t 4)),Ma 13 (.load true 5 (.t 5)),Ma 9 (.alloc [(.int .i64 0),(.int .i64 0),(.int .i64 0),(.int .i64 0),(.int .i64 0)]),Ma 10 (.alloc [(.int .i64 0),(.int .i64 0),(.int .i64 0),(.int .i64 0),(.int .i64 0)]),Mb (.store 5 (.t 9) (.t 12)),Mb (.store 5 (.t 10) (.t 13))]
@[simp] theorem l95_1:q95_1.length=6:=rfl
def p95_1:List (List Nat):=[[],[],[],[],[2,0,0,2,3],[3,1,4,0,1,2,3,4]]
instance:KD Try.f95.ntmps q95_1 p95_1:=⟨[[],[],[],[],[0,2,3],[0,1,2,3,4]],[2,3,4,5,8,9,10],by kernel_rfl⟩
def q95_2:List MO:=[Ma 14 (.faddr 1 (.t 4)),Ma 15 (.load false 1 (.t 14)),Ma 16 (.bin .eql (.t 15) (.c (.int .i64 1)))]
@[simp] theorem l95_2:q95_2.length=3:=rfl
instance:KR Try.f95.ntmps q95_2:=⟨[2,3,4,5,8,9,10,16],by kernel_rfl⟩
def q95_3:List MO:=[Ma 17 (.load true 5 (.t 5)),Ma 18 (.load true 5 (.t 4)),Mb (.store 5 (.t 9) (.t 17)),Mb (.store 5 (.t 10) (.t 18))]
@[simp] theorem l95_3:q95_3.length=4:=rfl
def p95_3:List (List Nat):=[[],[],[0,0],[1,2,0,1,2]]
instance:KD Try.f95.ntmps q95_3 p95_3:=⟨[[],[],[0],[0,1,2]],[2,3,4,5,8,9,10],by kernel_rfl⟩
def q95_4:List MO:=[Ma 19 (.faddr 1 (.t 9)),Ma 20 (.load false 1 (.t 19)),Ma 21 (.bin .neq (.t 20) (.c (.int .i64 0))),Ma 22 (.mv (.t 21)),Mg 23 (.faddr 1 (.t 10)) 22 false,Mg 24 (.load false 1 (.t 23)) 22 false,Mg 25 (.bin .neq (.t 24) (.c (.int .i64 1))) 22 false,Ma 26 (.pick (.t 22) (.c (.bool true)) (.t 25)),Ma 27 (.mv (.t 26)),Mg 28 (.faddr 0 (.t 4)) 27 false,Mg 29 (.load false 1 (.t 28)) 27 false,Mg 30 (.faddr 0 (.t 5)) 27 false,Mg 31 (.load false 1 (.t 30)) 27 false,Mg 32 (.bin .neq (.t 29) (.t 31)) 27 false,Ma 33 (.pick (.t 27) (.c (.bool true)) (.t 32))]
@[simp] theorem l95_4:q95_4.length=15:=rfl
instance:KR Try.f95.ntmps q95_4:=⟨[2,3,4,5,8,9,10,33],by kernel_rfl⟩
def q95_5:List MO:=[Ma 34 (.build [(.int .i64 0),(.int .i64 0)] []),Mb (.store 2 (.t 8) (.t 34))]
@[simp] theorem l95_5:q95_5.length=2:=rfl
instance:KR Try.f95.ntmps q95_5:=⟨[8],by kernel_rfl⟩
def q95_6:List MO:=[Ma 35 (.mv (.t 2)),Ma 36 (.mv (.t 3)),Ma 37 (.mn [(.t 35),(.t 36)]),Ma 11 (.mv (.t 37))]
@[simp] theorem l95_6:q95_6.length=4:=rfl
instance:KR Try.f95.ntmps q95_6:=⟨[4,5,8,9,10,11],by kernel_rfl⟩
def q95_7:List MO:=[Ma 38 (.faddr 2 (.t 9)),Ma 39 (.load false 1 (.t 38)),Ma 40 (.faddr 2 (.t 10)),Ma 41 (.load false 1 (.t 40)),Ma 42 (.bin .lss (.t 39) (.t 41)),Ma 43 (.mv (.t 42)),Mg 44 (.mv (.t 11)) 43 false,Mg 45 (.bin .lss (.t 44) (.c (.int .i64 1))) 43 false,Ma 46 (.pick (.t 43) (.c (.bool true)) (.t 45)),Ma 47 (.mv (.t 46)),Mg 48 (.mv (.t 11)) 47 false,Mg 49 (.faddr 3 (.t 4)) 47 false,Mg 50 (.load false 1 (.t 49)) 47 false,Mg 51 (.faddr 3 (.t 5)) 47 false,Mg 52 (.load false 1 (.t 51)) 47 false,Mg 53 (.mx [(.t 50),(.t 52)]) 47 false,Mg 54 (.bin .lss (.t 48) (.t 53)) 47 false,Ma 55 (.pick (.t 47) (.c (.bool true)) (.t 54))]
@[simp] theorem l95_7:q95_7.length=18:=rfl
instance:KR Try.f95.ntmps q95_7:=⟨[8,9,10,11,55],by kernel_rfl⟩
def q95_8:List MO:=[Ma 56 (.build [(.int .i64 0),(.int .i64 0)] []),Mb (.store 2 (.t 8) (.t 56))]
@[simp] theorem l95_8:q95_8.length=2:=rfl
instance:KR Try.f95.ntmps q95_8:=⟨[8],by kernel_rfl⟩
def q95_9:List MO:=[Ma 57 (.mv (.t 11)),Ma 58 (.faddr 2 (.t 10)),Ma 59 (.load false 1 (.t 58)),Ma 60 (.faddr 2 (.t 9)),Ma 61 (.load false 1 (.t 60)),Ma 62 (.call (.c (.fn 103 [])) [(.t 59),(.t 61)]),Ma 63 (.build [(.int .i64 0),(.int .i64 0)] [(0,(1,(.t 57))),(1,(1,(.t 62)))]),Mb (.store 2 (.t 8) (.t 63))]
@[simp] theorem l95_9:q95_9.length=8:=rfl
instance:KR Try.f95.ntmps q95_9:=⟨[8],by kernel_rfl⟩
def m95:MCode:=.seq (.reg q95_0) (.seq (.draw q95_1 p95_1) (.seq (.seq (.reg q95_2) (.cond (.t 16) (.draw q95_3 p95_3) .skip)) (.seq (.seq (.reg q95_4) (.cond (.t 33) (.seq (.reg q95_5) .ret) .skip)) (.seq (.reg q95_6) (.seq (.seq (.reg q95_7) (.cond (.t 55) (.seq (.reg q95_8) .ret) .skip)) (.seq (.reg q95_9) .ret))))))
theorem rc95:rcOf Try.prog Try.f95=some m95:=by kernel_rfl
theorem rv95:rRVs Try.prog Try.f95.results.toList=some [(.c true 2 8)]:=by kernel_rfl
theorem nm95:(Try.f95.name == "runtime.NumGoroutine")=false:=by kernel_rfl
def q103_0:List MO:=[Ma 4 (.mv (.c (.int .i64 0)))]
@[simp] theorem l103_0:q103_0.length=1:=rfl
instance:KR Try.f103.ntmps q103_0:=⟨[0,1],by kernel_rfl⟩
def q103_1:List MO:=[Ma 5 (.mv (.t 0)),Ma 6 (.mv (.t 1)),Ma 7 (.mv (.t 0)),Ma 8 (.bin .sub (.t 6) (.t 7)),Ma 9 (.bin .quo (.t 8) (.c (.int .i64 2))),Ma 10 (.bin .add (.t 5) (.t 9)),Ma 11 (.mv (.t 0)),Ma 12 (.mv (.t 1)),Ma 13 (.call (.c (.fn 106 [])) [(.t 11),(.t 12)]),Ma 14 (.bin .sub (.t 10) (.t 13)),Ma 4 (.mv (.t 14))]
@[simp] theorem l103_1:q103_1.length=11:=rfl
instance:KR Try.f103.ntmps q103_1:=⟨[4],by kernel_rfl⟩
def m103:MCode:=.seq (.reg q103_0) (.seq (.reg q103_1) .ret)
theorem rc103:rcOf Try.prog Try.f103=some m103:=by kernel_rfl
theorem rv103:rRVs Try.prog Try.f103.results.toList=some [(.t 4)]:=by kernel_rfl
theorem nm103:(Try.f103.name == "runtime.NumGoroutine")=false:=by kernel_rfl
def q106_0:List MO:=[Ma 4 (.mv (.c (.int .i64 0)))]
@[simp] theorem l106_0:q106_0.length=1:=rfl
instance:KR Try.f106.ntmps q106_0:=⟨[0,1],by kernel_rfl⟩
def q106_1:List MO:=[Ma 5 (.mv (.t 1)),Ma 6 (.mv (.t 0)),Ma 7 (.bin .lss (.t 5) (.t 6)),Ma 8 (.mv (.t 7)),Mg 9 (.mv (.t 0)) 8 true,Mg 10 (.mv (.t 1)) 8 true,Mg 11 (.bin .sub (.t 9) (.t 10)) 8 true,Mg 12 (.bin .rem (.t 11) (.c (.int .i64 2))) 8 true,Mg 13 (.bin .eql (.t 12) (.c (.int .i64 1))) 8 true,Ma 14 (.pick (.t 8) (.t 13) (.c (.bool false)))]
@[simp] theorem l106_1:q106_1.length=10:=rfl
instance:KR Try.f106.ntmps q106_1:=⟨[14],by kernel_rfl⟩
def q106_2:List MO:=[Ma 4 (.mv (.c (.int .i64 1)))]
@[simp] theorem l106_2:q106_2.length=1:=rfl
instance:KR Try.f106.ntmps q106_2:=⟨[4],by kernel_rfl⟩
def q106_3:List MO:=[Ma 4 (.mv (.c (.int .i64 0)))]
@[simp] theorem l106_3:q106_3.length=1:=rfl
instance:KR Try.f106.ntmps q106_3:=⟨[4],by kernel_rfl⟩
def m106:MCode:=.seq (.reg q106_0) (.seq (.seq (.reg q106_1) (.cond (.t 14) (.seq (.reg q106_2) .ret) .skip)) (.seq (.reg q106_3) .ret))
theorem rc106:rcOf Try.prog Try.f106=some m106:=by kernel_rfl
theorem rv106:rRVs Try.prog Try.f106.results.toList=some [(.t 4)]:=by kernel_rfl
theorem nm106:(Try.f106.name == "runtime.NumGoroutine")=false:=by kernel_rfl
def q47_0:List MO:=[Ma 2 (.mv (.c (.bool false)))]
@[simp] theorem l47_0:q47_0.length=1:=rfl
instance:KR Try.f47.ntmps q47_0:=⟨[0],by kernel_rfl⟩
def q47_1:List MO:=[Ma 3 (.mv (.t 0)),Ma 4 (.bin .eql (.t 3) (.c (.int .i64 1))),Ma 5 (.mv (.t 4)),Mg 6 (.mv (.t 0)) 5 false,Mg 7 (.bin .eql (.t 6) (.c (.int .i64 2))) 5 false,Ma 8 (.pick (.t 5) (.c (.bool true)) (.t 7)),Ma 2 (.mv (.t 8))]
@[simp] theorem l47_1:q47_1.length=7:=rfl
instance:KR Try.f47.ntmps q47_1:=⟨[2],by kernel_rfl⟩
def m47:MCode:=.seq (.reg q47_0) (.seq (.reg q47_1) .ret)
theorem rc47:rcOf Try.prog Try.f47=some m47:=by kernel_rfl
theorem rv47:rRVs Try.prog Try.f47.results.toList=some [(.t 2)]:=by kernel_rfl
theorem nm47:(Try.f47.name == "runtime.NumGoroutine")=false:=by kernel_rfl
def q48_0:List MO:=[Ma 4 (.box (.t 0)),Ma 5 (.box (.t 1)),Ma 8 (.mv (.c (.int .i64 0)))]
@[simp] theorem l48_0:q48_0.length=3:=rfl
instance:KR Try.f48.ntmps q48_0:=⟨[2,3,4,5],by kernel_rfl⟩
def q48_1:List MO:=[Ma 9 (.faddr 0 (.t 5)),Ma 10 (.load false 1 (.t 9)),Ma 11 (.bin .lss (.t 10) (.c (.int .i64 0))),Ma 12 (.mv (.t 11)),Mg 13 (.faddr 0 (.t 5)) 12 false,Mg 14 (.load false 1 (.t 13)) 12 false,Mg 15 (.faddr 2 (.t 4)) 12 false,Mg 16 (.load false 1 (.t 15)) 12 false,Mg 17 (.bin .geq (.t 14) (.t 16)) 12 false,Ma 18 (.pick (.t 12) (.c (.bool true)) (.t 17))]
@[simp] theorem l48_1:q48_1.length=10:=rfl
instance:KR Try.f48.ntmps q48_1:=⟨[2,3,5,18],by kernel_rfl⟩
def q48_2:List MO:=[Ma 8 (.mv (.c (.int .i64 22)))]
@[simp] theorem l48_2:q48_2.length=1:=rfl
instance:KR Try.f48.ntmps q48_2:=⟨[8],by kernel_rfl⟩
def q48_3:List MO:=[Ma 19 (.faddr 1 (.t 5)),Ma 20 (.load false 1 (.t 19)),Ma 21 (.bin .neq (.t 20) (.c (.int .i64 0))),Ma 22 (.mv (.t 21)),Mg 23 (.faddr 1 (.t 5)) 22 true,Mg 24 (.load false 1 (.t 23)) 22 true,Mg 25 (.bin .neq (.t 24) (.c (.int .i64 1))) 22 true,Ma 26 (.pick (.t 22) (.t 25) (.c (.bool false)))]
@[simp] theorem l48_3:q48_3.length=8:=rfl
instance:KR Try.f48.ntmps q48_3:=⟨[2,3,5,26],by kernel_rfl⟩
def q48_4:List MO:=[Ma 8 (.mv (.c (.int .i64 1)))]
@[simp] theorem l48_4:q48_4.length=1:=rfl
instance:KR Try.f48.ntmps q48_4:=⟨[8],by kernel_rfl⟩
def q48_5:List MO:=[Ma 27 (.mv (.t 2)),Ma 28 (.bin .lss (.t 27) (.c (.int .i64 1))),Ma 29 (.mv (.t 28)),Mg 30 (.mv (.t 2)) 29 false,Mg 31 (.bin .gtr (.t 30) (.c (.int .i64 9999))) 29 false,Ma 32 (.pick (.t 29) (.c (.bool true)) (.t 31))]
@[simp] theorem l48_5:q48_5.length=6:=rfl
instance:KR Try.f48.ntmps q48_5:=⟨[2,3,5,32],by kernel_rfl⟩
def q48_6:List MO:=[Ma 8 (.mv (.c (.int .i64 23)))]
@[simp] theorem l48_6:q48_6.length=1:=rfl
instance:KR Try.f48.ntmps q48_6:=⟨[8],by kernel_rfl⟩
def q48_7:List MO:=[Ma 33 (.faddr 2 (.t 5)),Ma 34 (.load false 1 (.t 33)),Ma 35 (.bin .lss (.t 34) (.c (.int .i64 1))),Ma 36 (.mv (.t 35)),Mg 37 (.faddr 2 (.t 5)) 36 false,Mg 38 (.load false 1 (.t 37)) 36 false,Mg 39 (.bin .gtr (.t 38) (.c (.int .i64 9999))) 36 false,Ma 40 (.pick (.t 36) (.c (.bool true)) (.t 39))]
@[simp] theorem l48_7:q48_7.length=8:=rfl
instance:KR Try.f48.ntmps q48_7:=⟨[2,3,5,40],by kernel_rfl⟩
def q48_8:List MO:=[Ma 8 (.mv (.c (.int .i64 24)))]
@[simp] theorem l48_8:q48_8.length=1:=rfl
instance:KR Try.f48.ntmps q48_8:=⟨[8],by kernel_rfl⟩
def q48_9:List MO:=[Ma 41 (.faddr 3 (.t 5)),Ma 42 (.load false 1 (.t 41)),Ma 43 (.bin .lss (.t 42) (.c (.int .i64 1))),Ma 44 (.mv (.t 43)),Mg 45 (.faddr 3 (.t 5)) 44 false,Mg 46 (.load false 1 (.t 45)) 44 false,Mg 47 (.mv (.t 2)) 44 false,Mg 48 (.bin .gtr (.t 46) (.t 47)) 44 false,Ma 49 (.pick (.t 44) (.c (.bool true)) (.t 48))]
@[simp] theorem l48_9:q48_9.length=9:=rfl
instance:KR Try.f48.ntmps q48_9:=⟨[3,5,49],by kernel_rfl⟩
def q48_10:List MO:=[Ma 8 (.mv (.c (.int .i64 25)))]
@[simp] theorem l48_10:q48_10.length=1:=rfl
instance:KR Try.f48.ntmps q48_10:=⟨[8],by kernel_rfl⟩
def q48_11:List MO:=[Ma 50 (.faddr 4 (.t 5)),Ma 51 (.load false 1 (.t 50)),Ma 52 (.mv (.t 3)),Ma 53 (.bin .leq (.t 51) (.t 52)),Ma 54 (.mv (.t 53)),Mg 55 (.faddr 4 (.t 5)) 54 false,Mg 56 (.load false 1 (.t 55)) 54 false,Mg 57 (.bin .gtr (.t 56) (.c (.int .i64 1000000))) 54 false,Ma 58 (.pick (.t 54) (.c (.bool true)) (.t 57))]
@[simp] theorem l48_11:q48_11.length=9:=rfl
instance:KR Try.f48.ntmps q48_11:=⟨[58],by kernel_rfl⟩
def q48_12:List MO:=[Ma 8 (.mv (.c (.int .i64 26)))]
@[simp] theorem l48_12:q48_12.length=1:=rfl
instance:KR Try.f48.ntmps q48_12:=⟨[8],by kernel_rfl⟩
def q48_13:List MO:=[Ma 8 (.mv (.c (.int .i64 0)))]
@[simp] theorem l48_13:q48_13.length=1:=rfl
instance:KR Try.f48.ntmps q48_13:=⟨[8],by kernel_rfl⟩
def m48:MCode:=.seq (.reg q48_0) (.seq (.seq (.reg q48_1) (.cond (.t 18) (.seq (.reg q48_2) .ret) .skip)) (.seq (.seq (.reg q48_3) (.cond (.t 26) (.seq (.reg q48_4) .ret) .skip)) (.seq (.seq (.reg q48_5) (.cond (.t 32) (.seq (.reg q48_6) .ret) .skip)) (.seq (.seq (.reg q48_7) (.cond (.t 40) (.seq (.reg q48_8) .ret) .skip)) (.seq (.seq (.reg q48_9) (.cond (.t 49) (.seq (.reg q48_10) .ret) .skip)) (.seq (.seq (.reg q48_11) (.cond (.t 58) (.seq (.reg q48_12) .ret) .skip)) (.seq (.reg q48_13) .ret)))))))
theorem rc48:rcOf Try.prog Try.f48=some m48:=by kernel_rfl
theorem rv48:rRVs Try.prog Try.f48.results.toList=some [(.t 8)]:=by kernel_rfl
theorem nm48:(Try.f48.name == "runtime.NumGoroutine")=false:=by kernel_rfl
def q27_0:List MO:=[Ma 1 (.box (.t 0)),Ma 2 (.mv (.c (.bool false)))]
@[simp] theorem l27_0:q27_0.length=2:=rfl
instance:KR Try.f27.ntmps q27_0:=⟨[1],by kernel_rfl⟩
def q27_1:List MO:=[Ma 3 (.load true 7 (.t 1)),Ma 4 (.call (.c (.fn 64 [])) [(.t 3)]),Ma 5 (.bin .lss (.t 4) (.c (.int .i64 0))),Ma 2 (.mv (.t 5))]
@[simp] theorem l27_1:q27_1.length=4:=rfl
instance:KR Try.f27.ntmps q27_1:=⟨[2],by kernel_rfl⟩
def m27:MCode:=.seq (.reg q27_0) (.seq (.reg q27_1) .ret)
theorem rc27:rcOf Try.prog Try.f27=some m27:=by kernel_rfl
theorem rv27:rRVs Try.prog Try.f27.results.toList=some [(.t 2)]:=by kernel_rfl
theorem nm27:(Try.f27.name == "runtime.NumGoroutine")=false:=by kernel_rfl
def q64_0:List MO:=[Ma 1 (.box (.t 0)),Ma 2 (.mv (.c (.int .i64 0)))]
@[simp] theorem l64_0:q64_0.length=2:=rfl
instance:KR Try.f64.ntmps q64_0:=⟨[1],by kernel_rfl⟩
def q64_1:List MO:=[Ma 7 (.faddr 0 (.t 1)),Ma 8 (.load false 1 (.t 7)),Ma 9 (.faddr 1 (.t 1)),Ma 10 (.load false 1 (.t 9)),Ma 11 (.faddr 2 (.t 1)),Ma 12 (.load false 1 (.t 11)),Ma 13 (.faddr 3 (.t 1)),Ma 14 (.load false 1 (.t 13)),Ma 15 (.faddr 4 (.t 1)),Ma 16 (.load false 1 (.t 15)),Ma 17 (.faddr 5 (.t 1)),Ma 18 (.load false 1 (.t 17)),Ma 19 (.faddr 6 (.t 1)),Ma 20 (.load false 1 (.t 19)),Ma 21 (.bsl 1 7 [(.int .i64 0)] [(0,(1,(.t 8))),(1,(1,(.t 10))),(2,(1,(.t 12))),(3,(1,(.t 14))),(4,(1,(.t 16))),(5,(1,(.t 18))),(6,(1,(.t 20)))]),Ma 3 (.mv (.t 21))]
@[simp] theorem l64_1:q64_1.length=16:=rfl
instance:KR Try.f64.ntmps q64_1:=⟨[3],by kernel_rfl⟩
def q64_2:List MO:=[Ma 22 (.bsl 1 7 [(.int .i64 0)] [(0,(1,(.c (.int .i64 1)))),(1,(1,(.c (.int .i64 1)))),(2,(1,(.c (.int .i64 1)))),(3,(1,(.c (.int .i64 1)))),(4,(1,(.c (.int .i64 0)))),(5,(1,(.c (.int .i64 1)))),(6,(1,(.c (.int .i64 1))))]),Ma 4 (.mv (.t 22))]
@[simp] theorem l64_2:q64_2.length=2:=rfl
instance:KR Try.f64.ntmps q64_2:=⟨[3,4],by kernel_rfl⟩
def q64_3:List MO:=[Ma 23 (.bsl 1 7 [(.int .i64 0)] [(0,(1,(.c (.int .i64 6)))),(1,(1,(.c (.int .i64 4)))),(2,(1,(.c (.int .i64 3)))),(3,(1,(.c (.int .i64 4)))),(4,(1,(.c (.int .i64 4)))),(5,(1,(.c (.int .i64 4)))),(6,(1,(.c (.int .i64 15))))]),Ma 5 (.mv (.t 23))]
@[simp] theorem l64_3:q64_3.length=2:=rfl
instance:KR Try.f64.ntmps q64_3:=⟨[3,4,5],by kernel_rfl⟩
def q64_4:List MO:=[Ma 6 (.mv (.c (.int .i64 0)))]
@[simp] theorem l64_4:q64_4.length=1:=rfl
instance:KR Try.f64.ntmps q64_4:=⟨[3,4,5,6],by kernel_rfl⟩
def q64_5:List MO:=[Ma 24 (.mv (.t 6)),Ma 25 (.mv (.t 3)),Ma 26 (.len (.t 25)),Ma 27 (.bin .lss (.t 24) (.t 26))]
@[simp] theorem l64_5:q64_5.length=4:=rfl
instance:KR Try.f64.ntmps q64_5:=⟨[3,4,5,6,27],by kernel_rfl⟩
def q64_6:List MO:=[Ma 30 (.mv (.t 3)),Ma 31 (.mv (.t 6)),Ma 32 (.iaddr 1 (.t 30) (.t 31)),Ma 33 (.load false 1 (.t 32)),Ma 34 (.mv (.t 4)),Ma 35 (.mv (.t 6)),Ma 36 (.iaddr 1 (.t 34) (.t 35)),Ma 37 (.load false 1 (.t 36)),Ma 38 (.bin .lss (.t 33) (.t 37)),Ma 39 (.mv (.t 38)),Mg 40 (.mv (.t 3)) 39 false,Mg 41 (.mv (.t 6)) 39 false,Mg 42 (.iaddr 1 (.t 40) (.t 41)) 39 false,Mg 43 (.load false 1 (.t 42)) 39 false,Mg 44 (.mv (.t 5)) 39 false,Mg 45 (.mv (.t 6)) 39 false,Mg 46 (.iaddr 1 (.t 44) (.t 45)) 39 false,Mg 47 (.load false 1 (.t 46)) 39 false,Mg 48 (.bin .gtr (.t 43) (.t 47)) 39 false,Ma 49 (.pick (.t 39) (.c (.bool true)) (.t 48))]
@[simp] theorem l64_6:q64_6.length=20:=rfl
def p64_6:List (List Nat):=[[],[],[0,1],[2],[],[],[4,5],[6],[3,7],[8],[9],[9],[10,11,9],[12,9],[9],[9],[14,15,9],[16,9],[13,17,9],[9,18]]
instance:KD Try.f64.ntmps q64_6 p64_6:=⟨[[],[],[0,1],[0,1,2],[],[],[4,5],[4,5,6],[0,1,2,3,4,5,6,7],[0,1,2,3,4,5,6,7,8],[0,1,2,3,4,5,6,7,8,9],[0,1,2,3,4,5,6,7,8,9],[0,1,2,3,4,5,6,7,8,9,10,11],[0,1,2,3,4,5,6,7,8,9,10,11,12],[0,1,2,3,4,5,6,7,8,9],[0,1,2,3,4,5,6,7,8,9],[0,1,2,3,4,5,6,7,8,9,14,15],[0,1,2,3,4,5,6,7,8,9,14,15,16],[0,1,2,3,4,5,6,7,8,9,10,11,12,13,14,15,16,17],[0,1,2,3,4,5,6,7,8,9,10,11,12,13,14,15,16,17,18]],[3,4,5,6,49],by kernel_rfl⟩
def q64_7:List MO:=[Ma 50 (.mv (.t 6)),Ma 2 (.mv (.t 50))]
@[simp] theorem l64_7:q64_7.length=2:=rfl
instance:KR Try.f64.ntmps q64_7:=⟨[2],by kernel_rfl⟩
def q64_8:List MO:=[Ma 28 (.mv (.t 6)),Ma 29 (.bin .add (.t 28) (.c (.int .i64 1))),Ma 6 (.mv (.t 29))]
@[simp] theorem l64_8:q64_8.length=3:=rfl
instance:KR Try.f64.ntmps q64_8:=⟨[3,4,5,6],by kernel_rfl⟩
def q64_9:List MO:=[Ma 2 (.mv (.c (.int .i64 (-1))))]
@[simp] theorem l64_9:q64_9.length=1:=rfl
instance:KR Try.f64.ntmps q64_9:=⟨[2],by kernel_rfl⟩
def m64:MCode:=.seq (.reg q64_0) (.seq (.reg q64_1) (.seq (.reg q64_2) (.seq (.reg q64_3) (.seq (.seq (.reg q64_4) (.block 0 (.loop (.seq (.seq (.reg q64_5) (.cond (.t 27) .skip (.exit 0))) (.seq (.block 1 (.seq (.draw q64_6 p64_6) (.cond (.t 49) (.seq (.reg q64_7) .ret) .skip))) (.reg q64_8)))))) (.seq (.reg q64_9) .ret)))))
theorem rc64:rcOf Try.prog Try.f64=some m64:=by kernel_rfl
theorem rv64:rRVs Try.prog Try.f64.results.toList=some [(.t 2)]:=by kernel_rfl
theorem nm64:(Try.f64.name == "runtime.NumGoroutine")=false:=by kernel_rfl
def q70_0:List MO:=[Ma 1 (.box (.t 0)),Ma 2 (.mv (.c .nsl))]
@[simp] theorem l70_0:q70_0.length=2:=rfl
instance:KR Try.f70.ntmps q70_0:=⟨[1],by kernel_rfl⟩
def q70_1:List MO:=[Ma 3 (.faddr 0 (.t 1)),Ma 4 (.load false 1 (.t 3)),Ma 5 (.build [(.str (ByteArray.mk #[])),(.int .i64 0),(.int .i64 0),(.int .i64 0)] [(0,(1,(.c (.str (ByteArray.mk #[112,97,114,116,115]))))),(1,(1,(.t 4))),(2,(1,(.c (.int .i64 1)))),(3,(1,(.c (.int .i64 6))))]),Ma 6 (.faddr 1 (.t 1)),Ma 7 (.load false 1 (.t 6)),Ma 8 (.build [(.str (ByteArray.mk #[])),(.int .i64 0),(.int .i64 0),(.int .i64 0)] [(0,(1,(.c (.str (ByteArray.mk #[99,101,108,108,115]))))),(1,(1,(.t 7))),(2,(1,(.c (.int .i64 1)))),(3,(1,(.c (.int .i64 4))))]),Ma 9 (.faddr 2 (.t 1)),Ma 10 (.load false 1 (.t 9)),Ma 11 (.build [(.str (ByteArray.mk #[])),(.int .i64 0),(.int .i64 0),(.int .i64 0)] [(0,(1,(.c (.str (ByteArray.mk #[110,97,109,101,115]))))),(1,(1,(.t 10))),(2,(1,(.c (.int .i64 1)))),(3,(1,(.c (.int .i64 3))))]),Ma 12 (.faddr 3 (.t 1)),Ma 13 (.load false 1 (.t 12)),Ma 14 (.build [(.str (ByteArray.mk #[])),(.int .i64 0),(.int .i64 0),(.int .i64 0)] [(0,(1,(.c (.str (ByteArray.mk #[98,97,110,100,115]))))),(1,(1,(.t 13))),(2,(1,(.c (.int .i64 1)))),(3,(1,(.c (.int .i64 4))))]),Ma 15 (.faddr 4 (.t 1)),Ma 16 (.load false 1 (.t 15)),Ma 17 (.build [(.str (ByteArray.mk #[])),(.int .i64 0),(.int .i64 0),(.int .i64 0)] [(0,(1,(.c (.str (ByteArray.mk #[112,114,111,98,101,115]))))),(1,(1,(.t 16))),(2,(1,(.c (.int .i64 0)))),(3,(1,(.c (.int .i64 4))))]),Ma 18 (.faddr 5 (.t 1)),Ma 19 (.load false 1 (.t 18)),Ma 20 (.build [(.str (ByteArray.mk #[])),(.int .i64 0),(.int .i64 0),(.int .i64 0)] [(0,(1,(.c (.str (ByteArray.mk #[102,105,108,108,115]))))),(1,(1,(.t 19))),(2,(1,(.c (.int .i64 1)))),(3,(1,(.c (.int .i64 4))))]),Ma 21 (.faddr 6 (.t 1)),Ma 22 (.load false 1 (.t 21)),Ma 23 (.build [(.str (ByteArray.mk #[])),(.int .i64 0),(.int .i64 0),(.int .i64 0)] [(0,(1,(.c (.str (ByteArray.mk #[103,101,110,115]))))),(1,(1,(.t 22))),(2,(1,(.c (.int .i64 1)))),(3,(1,(.c (.int .i64 15))))]),Ma 24 (.bsl 4 7 [(.str (ByteArray.mk #[])),(.int .i64 0),(.int .i64 0),(.int .i64 0)] [(0,(4,(.t 5))),(4,(4,(.t 8))),(8,(4,(.t 11))),(12,(4,(.t 14))),(16,(4,(.t 17))),(20,(4,(.t 20))),(24,(4,(.t 23)))]),Ma 2 (.mv (.t 24))]
@[simp] theorem l70_1:q70_1.length=23:=rfl
instance:KR Try.f70.ntmps q70_1:=⟨[2],by kernel_rfl⟩
def m70:MCode:=.seq (.reg q70_0) (.seq (.reg q70_1) .ret)
theorem rc70:rcOf Try.prog Try.f70=some m70:=by kernel_rfl
theorem rv70:rRVs Try.prog Try.f70.results.toList=some [(.t 2)]:=by kernel_rfl
theorem nm70:(Try.f70.name == "runtime.NumGoroutine")=false:=by kernel_rfl
def q71_0:List MO:=[Ma 4 (.mv (.c (.raw .nilIface)))]
@[simp] theorem l71_0:q71_0.length=1:=rfl
instance:KR Try.f71.ntmps q71_0:=⟨[0,1],by kernel_rfl⟩
def q71_1:List MO:=[Ma 5 (.mv (.t 1)),Ma 6 (.eq false .iface (.t 5) (.c (.raw .nilIface)))]
@[simp] theorem l71_1:q71_1.length=2:=rfl
instance:KR Try.f71.ntmps q71_1:=⟨[0,1,6],by kernel_rfl⟩
def q71_2:List MO:=[Ma 4 (.mv (.c (.raw .nilIface)))]
@[simp] theorem l71_2:q71_2.length=1:=rfl
instance:KR Try.f71.ntmps q71_2:=⟨[4],by kernel_rfl⟩
def q71_3:List MO:=[Ma 7 (.mv (.t 0)),Ma 8 (.mv (.t 1)),Ma 9 (.build [(.int .i64 0),(.raw .nilIface)] [(0,(1,(.t 7))),(1,(1,(.t 8)))]),Ma 10 (.box (.t 9)),Ma 11 (.mkif 165 (.t 10)),Ma 4 (.mv (.t 11))]
@[simp] theorem l71_3:q71_3.length=6:=rfl
instance:KR Try.f71.ntmps q71_3:=⟨[4],by kernel_rfl⟩
def m71:MCode:=.seq (.reg q71_0) (.seq (.seq (.reg q71_1) (.cond (.t 6) (.seq (.reg q71_2) .ret) .skip)) (.seq (.reg q71_3) .ret))
theorem rc71:rcOf Try.prog Try.f71=some m71:=by kernel_rfl
theorem rv71:rRVs Try.prog Try.f71.results.toList=some [(.t 4)]:=by kernel_rfl
theorem nm71:(Try.f71.name == "runtime.NumGoroutine")=false:=by kernel_rfl
def q72_0:List MO:=[Ma 4 (.mv (.c (.raw .nilIface)))]
@[simp] theorem l72_0:q72_0.length=1:=rfl
instance:KR Try.f72.ntmps q72_0:=⟨[0,1],by kernel_rfl⟩
def q72_1:List MO:=[Ma 5 (.mv (.t 1)),Ma 6 (.eq false .iface (.t 5) (.c (.raw .nilIface)))]
@[simp] theorem l72_1:q72_1.length=2:=rfl
instance:KR Try.f72.ntmps q72_1:=⟨[0,1,6],by kernel_rfl⟩
def q72_2:List MO:=[Ma 4 (.mv (.c (.raw .nilIface)))]
@[simp] theorem l72_2:q72_2.length=1:=rfl
instance:KR Try.f72.ntmps q72_2:=⟨[4],by kernel_rfl⟩
def q72_3:List MO:=[Ma 7 (.mv (.t 0)),Ma 8 (.mv (.t 1)),Ma 9 (.build [(.str (ByteArray.mk #[])),(.raw .nilIface)] [(0,(1,(.t 7))),(1,(1,(.t 8)))]),Ma 10 (.box (.t 9)),Ma 11 (.mkif 168 (.t 10)),Ma 4 (.mv (.t 11))]
@[simp] theorem l72_3:q72_3.length=6:=rfl
instance:KR Try.f72.ntmps q72_3:=⟨[4],by kernel_rfl⟩
def m72:MCode:=.seq (.reg q72_0) (.seq (.seq (.reg q72_1) (.cond (.t 6) (.seq (.reg q72_2) .ret) .skip)) (.seq (.reg q72_3) .ret))
theorem rc72:rcOf Try.prog Try.f72=some m72:=by kernel_rfl
theorem rv72:rRVs Try.prog Try.f72.results.toList=some [(.t 4)]:=by kernel_rfl
theorem nm72:(Try.f72.name == "runtime.NumGoroutine")=false:=by kernel_rfl
def q42_0:List MO:=[Ma 1 (.box (.t 0)),Ma 2 (.alloc [(.int .i64 0),(.int .i64 0),(.int .i64 0),(.int .i64 0),(.int .i64 0),(.int .i64 0),(.int .i64 0)]),Ma 3 (.mv (.c (.raw .nilIface)))]
@[simp] theorem l42_0:q42_0.length=3:=rfl
instance:KR Try.f42.ntmps q42_0:=⟨[1,2],by kernel_rfl⟩
def q42_1:List MO:=[Ma 6 (.load true 7 (.t 1)),Ma 7 (.call (.c (.fn 70 [])) [(.t 6)]),Ma 8 (.len (.t 7)),Ma 9 (.mv (.c (.int .i64 0)))]
@[simp] theorem l42_1:q42_1.length=4:=rfl
instance:KR Try.f42.ntmps q42_1:=⟨[1,2,7,8,9],by kernel_rfl⟩
def q42_2:List MO:=[Ma 10 (.bin .lss (.t 9) (.t 8))]
@[simp] theorem l42_2:q42_2.length=1:=rfl
instance:KR Try.f42.ntmps q42_2:=⟨[1,2,7,8,9,10],by kernel_rfl⟩
def q42_3:List MO:=[Ma 11 (.mv (.t 9)),Ma 12 (.iaddr 4 (.t 7) (.t 9)),Ma 13 (.load true 4 (.t 12)),Ma 5 (.alloc [(.str (ByteArray.mk #[])),(.int .i64 0),(.int .i64 0),(.int .i64 0)]),Ma 4 (.mv (.t 11)),Mb (.store 4 (.t 5) (.t 13))]
@[simp] theorem l42_3:q42_3.length=6:=rfl
instance:KR Try.f42.ntmps q42_3:=⟨[1,2,4,5,7,8,9],by kernel_rfl⟩
def q42_4:List MO:=[Ma 14 (.faddr 1 (.t 5)),Ma 15 (.load false 1 (.t 14)),Ma 16 (.faddr 2 (.t 5)),Ma 17 (.load false 1 (.t 16)),Ma 18 (.bin .lss (.t 15) (.t 17)),Ma 19 (.mv (.t 18)),Mg 20 (.faddr 1 (.t 5)) 19 false,Mg 21 (.load false 1 (.t 20)) 19 false,Mg 22 (.faddr 3 (.t 5)) 19 false,Mg 23 (.load false 1 (.t 22)) 19 false,Mg 24 (.bin .gtr (.t 21) (.t 23)) 19 false,Ma 25 (.pick (.t 19) (.c (.bool true)) (.t 24))]
@[simp] theorem l42_4:q42_4.length=12:=rfl
instance:KR Try.f42.ntmps q42_4:=⟨[1,2,4,5,7,8,9,25],by kernel_rfl⟩
def q42_5:List MO:=[Ma 26 (.build [(.int .i64 0),(.int .i64 0),(.int .i64 0),(.int .i64 0),(.int .i64 0),(.int .i64 0),(.int .i64 0)] []),Ma 27 (.mv (.t 4)),Ma 28 (.faddr 0 (.t 5)),Ma 29 (.load false 1 (.t 28)),Ma 30 (.mkif 132 (.c (.int .i64 5))),Ma 31 (.call (.c (.fn 72 [])) [(.t 29),(.t 30)]),Ma 32 (.call (.c (.fn 71 [])) [(.t 27),(.t 31)]),Mb (.store 7 (.t 2) (.t 26)),Ma 3 (.mv (.t 32))]
@[simp] theorem l42_5:q42_5.length=9:=rfl
instance:KR Try.f42.ntmps q42_5:=⟨[2,3],by kernel_rfl⟩
def q42_6:List MO:=[Ma 33 (.bin .add (.t 9) (.c (.int .i64 1))),Ma 9 (.mv (.t 33))]
@[simp] theorem l42_6:q42_6.length=2:=rfl
instance:KR Try.f42.ntmps q42_6:=⟨[1,2,7,8,9],by kernel_rfl⟩
def q42_7:List MO:=[Ma 34 (.load true 7 (.t 1)),Ma 35 (.build [(.int .i64 0),(.int .i64 0),(.int .i64 0),(.int .i64 0),(.int .i64 0),(.int .i64 0),(.int .i64 0)] [(0,(7,(.t 34)))]),Mb (.store 7 (.t 2) (.t 35)),Ma 3 (.mv (.c (.raw .nilIface)))]
@[simp] theorem l42_7:q42_7.length=4:=rfl
instance:KR Try.f42.ntmps q42_7:=⟨[2,3],by kernel_rfl⟩
def m42:MCode:=.seq (.reg q42_0) (.seq (.seq (.reg q42_1) (.block 0 (.loop (.seq (.reg q42_2) (.seq (.cond (.t 10) .skip (.exit 0)) (.seq (.block 1 (.seq (.reg q42_3) (.seq (.reg q42_4) (.cond (.t 25) (.seq (.reg q42_5) .ret) .skip)))) (.reg q42_6))))))) (.seq (.reg q42_7) .ret))
theorem rc42:rcOf Try.prog Try.f42=some m42:=by kernel_rfl
theorem rv42:rRVs Try.prog Try.f42.results.toList=some [(.c true 7 2),(.t 3)]:=by kernel_rfl
theorem nm42:(Try.f42.name == "runtime.NumGoroutine")=false:=by kernel_rfl
def q82_0:List MO:=[Ma 0 (.alloc [.nsl])]
@[simp] theorem l82_0:q82_0.length=1:=rfl
instance:KR Try.f82.ntmps q82_0:=⟨[0],by kernel_rfl⟩
def q82_1:List MO:=[Ma 4 (.bsl 1 5 [(.int .i64 0)] [(0,(1,(.c (.int .i64 4)))),(1,(1,(.c (.int .i64 1)))),(2,(1,(.c (.int .i64 8)))),(3,(1,(.c (.int .i64 16)))),(4,(1,(.c (.int .i64 8))))]),Ma 5 (.call (.c (.fn 83 [])) [(.t 4)]),Ma 3 (.mv (.t 5)),Ma 6 (.ext (.t 3) 0),Ma 7 (.ext (.t 3) 1),Ma 1 (.alloc [.nsl]),Mb (.store 1 (.t 1) (.t 6)),Ma 2 (.mv (.t 7))]
@[simp] theorem l82_1:q82_1.length=8:=rfl
instance:KR Try.f82.ntmps q82_1:=⟨[0,1],by kernel_rfl⟩
def q82_2:List MO:=[Ma 8 (.load true 1 (.t 1)),Mb (.store 1 (.t 0) (.t 8))]
@[simp] theorem l82_2:q82_2.length=2:=rfl
instance:KR Try.f82.ntmps q82_2:=⟨[0],by kernel_rfl⟩
def m82:MCode:=.seq (.reg q82_0) (.seq (.reg q82_1) (.seq (.reg q82_2) .ret))
theorem rc82:rcOf Try.prog Try.f82=some m82:=by kernel_rfl
theorem rv82:rRVs Try.prog Try.f82.results.toList=some [(.c true 1 0)]:=by kernel_rfl
theorem nm82:(Try.f82.name == "runtime.NumGoroutine")=false:=by kernel_rfl
def q60_0:List MO:=[Ma 0 (.alloc [.nsl])]
@[simp] theorem l60_0:q60_0.length=1:=rfl
instance:KR Try.f60.ntmps q60_0:=⟨[0],by kernel_rfl⟩
def q60_1:List MO:=[Ma 4 (.bsl 1 6 [(.int .i64 0)] [(0,(1,(.c (.int .i64 3)))),(1,(1,(.c (.int .i64 16)))),(2,(1,(.c (.int .i64 16)))),(3,(1,(.c (.int .i64 20)))),(4,(1,(.c (.int .i64 5)))),(5,(1,(.c (.int .i64 4))))]),Ma 5 (.call (.c (.fn 83 [])) [(.t 4)]),Ma 3 (.mv (.t 5)),Ma 6 (.ext (.t 3) 0),Ma 7 (.ext (.t 3) 1),Ma 1 (.alloc [.nsl]),Mb (.store 1 (.t 1) (.t 6)),Ma 2 (.mv (.t 7))]
@[simp] theorem l60_1:q60_1.length=8:=rfl
instance:KR Try.f60.ntmps q60_1:=⟨[0,1],by kernel_rfl⟩
def q60_2:List MO:=[Ma 8 (.load true 1 (.t 1)),Mb (.store 1 (.t 0) (.t 8))]
@[simp] theorem l60_2:q60_2.length=2:=rfl
instance:KR Try.f60.ntmps q60_2:=⟨[0],by kernel_rfl⟩
def m60:MCode:=.seq (.reg q60_0) (.seq (.reg q60_1) (.seq (.reg q60_2) .ret))
theorem rc60:rcOf Try.prog Try.f60=some m60:=by kernel_rfl
theorem rv60:rRVs Try.prog Try.f60.results.toList=some [(.c true 1 0)]:=by kernel_rfl
theorem nm60:(Try.f60.name == "runtime.NumGoroutine")=false:=by kernel_rfl
def q100_0:List MO:=[Ma 0 (.alloc [.nsl])]
@[simp] theorem l100_0:q100_0.length=1:=rfl
instance:KR Try.f100.ntmps q100_0:=⟨[0],by kernel_rfl⟩
def q100_1:List MO:=[Ma 4 (.bsl 1 5 [(.int .i64 0)] [(0,(1,(.c (.int .i64 4)))),(1,(1,(.c (.int .i64 1)))),(2,(1,(.c (.int .i64 16)))),(3,(1,(.c (.int .i64 16)))),(4,(1,(.c (.int .i64 24))))]),Ma 5 (.call (.c (.fn 83 [])) [(.t 4)]),Ma 3 (.mv (.t 5)),Ma 6 (.ext (.t 3) 0),Ma 7 (.ext (.t 3) 1),Ma 1 (.alloc [.nsl]),Mb (.store 1 (.t 1) (.t 6)),Ma 2 (.mv (.t 7))]
@[simp] theorem l100_1:q100_1.length=8:=rfl
instance:KR Try.f100.ntmps q100_1:=⟨[0,1],by kernel_rfl⟩
def q100_2:List MO:=[Ma 8 (.load true 1 (.t 1)),Mb (.store 1 (.t 0) (.t 8))]
@[simp] theorem l100_2:q100_2.length=2:=rfl
instance:KR Try.f100.ntmps q100_2:=⟨[0],by kernel_rfl⟩
def m100:MCode:=.seq (.reg q100_0) (.seq (.reg q100_1) (.seq (.reg q100_2) .ret))
theorem rc100:rcOf Try.prog Try.f100=some m100:=by kernel_rfl
theorem rv100:rRVs Try.prog Try.f100.results.toList=some [(.c true 1 0)]:=by kernel_rfl
theorem nm100:(Try.f100.name == "runtime.NumGoroutine")=false:=by kernel_rfl
def q83_0:List MO:=[Ma 2 (.alloc [.nsl]),Ma 3 (.mv (.c (.raw .nilIface)))]
@[simp] theorem l83_0:q83_0.length=2:=rfl
instance:KR Try.f83.ntmps q83_0:=⟨[0,2],by kernel_rfl⟩
def q83_1:List MO:=[Ma 4 (.mv (.c (.int .i64 0)))]
@[simp] theorem l83_1:q83_1.length=1:=rfl
instance:KR Try.f83.ntmps q83_1:=⟨[0,2,4],by kernel_rfl⟩
def q83_2:List MO:=[Ma 7 (.mv (.t 0)),Ma 8 (.len (.t 7)),Ma 9 (.mv (.c (.int .i64 0)))]
@[simp] theorem l83_2:q83_2.length=3:=rfl
instance:KR Try.f83.ntmps q83_2:=⟨[0,2,4,7,8,9],by kernel_rfl⟩
def q83_3:List MO:=[Ma 10 (.bin .lss (.t 9) (.t 8))]
@[simp] theorem l83_3:q83_3.length=1:=rfl
instance:KR Try.f83.ntmps q83_3:=⟨[0,2,4,7,8,9,10],by kernel_rfl⟩
def q83_4:List MO:=[Ma 11 (.mv (.t 9)),Ma 12 (.iaddr 1 (.t 7) (.t 9)),Ma 13 (.load false 1 (.t 12)),Ma 5 (.mv (.t 11)),Ma 6 (.mv (.t 13))]
@[simp] theorem l83_4:q83_4.length=5:=rfl
instance:KR Try.f83.ntmps q83_4:=⟨[0,2,4,5,6,7,8,9],by kernel_rfl⟩
def q83_5:List MO:=[Ma 14 (.mv (.t 6)),Ma 15 (.bin .lss (.t 14) (.c (.int .i64 1))),Ma 16 (.mv (.t 15)),Mg 17 (.mv (.t 6)) 16 false,Mg 18 (.bin .gtr (.t 17) (.c (.int .i64 32))) 16 false,Ma 19 (.pick (.t 16) (.c (.bool true)) (.t 18))]
@[simp] theorem l83_5:q83_5.length=6:=rfl
instance:KR Try.f83.ntmps q83_5:=⟨[0,2,4,5,6,7,8,9,19],by kernel_rfl⟩
def q83_6:List MO:=[Ma 20 (.build [.nsl] []),Ma 21 (.mv (.t 5)),Ma 22 (.mkif 132 (.c (.int .i64 5))),Ma 23 (.call (.c (.fn 71 [])) [(.t 21),(.t 22)]),Mb (.store 1 (.t 2) (.t 20)),Ma 3 (.mv (.t 23))]
@[simp] theorem l83_6:q83_6.length=6:=rfl
instance:KR Try.f83.ntmps q83_6:=⟨[2,3],by kernel_rfl⟩
def q83_7:List MO:=[Ma 24 (.mv (.t 4)),Ma 25 (.mv (.t 6)),Ma 26 (.bin .add (.t 24) (.t 25)),Ma 4 (.mv (.t 26))]
@[simp] theorem l83_7:q83_7.length=4:=rfl
instance:KR Try.f83.ntmps q83_7:=⟨[0,2,4,5,7,8,9],by kernel_rfl⟩
def q83_8:List MO:=[Ma 27 (.mv (.t 4)),Ma 28 (.bin .gtr (.t 27) (.c (.int .i64 64)))]
@[simp] theorem l83_8:q83_8.length=2:=rfl
instance:KR Try.f83.ntmps q83_8:=⟨[0,2,4,5,7,8,9,28],by kernel_rfl⟩
def q83_9:List MO:=[Ma 29 (.build [.nsl] []),Ma 30 (.mv (.t 5)),Ma 31 (.mkif 132 (.c (.int .i64 4))),Ma 32 (.call (.c (.fn 71 [])) [(.t 30),(.t 31)]),Mb (.store 1 (.t 2) (.t 29)),Ma 3 (.mv (.t 32))]
@[simp] theorem l83_9:q83_9.length=6:=rfl
instance:KR Try.f83.ntmps q83_9:=⟨[2,3],by kernel_rfl⟩
def q83_10:List MO:=[Ma 33 (.bin .add (.t 9) (.c (.int .i64 1))),Ma 9 (.mv (.t 33))]
@[simp] theorem l83_10:q83_10.length=2:=rfl
instance:KR Try.f83.ntmps q83_10:=⟨[0,2,4,7,8,9],by kernel_rfl⟩
def q83_11:List MO:=[Ma 34 (.mv (.t 0)),Ma 35 (.app 1 8 (.c .nsl) (.t 34)),Ma 36 (.build [.nsl] [(0,(1,(.t 35)))]),Mb (.store 1 (.t 2) (.t 36)),Ma 3 (.mv (.c (.raw .nilIface)))]
@[simp] theorem l83_11:q83_11.length=5:=rfl
instance:KR Try.f83.ntmps q83_11:=⟨[2,3],by kernel_rfl⟩
def m83:MCode:=.seq (.reg q83_0) (.seq (.reg q83_1) (.seq (.seq (.reg q83_2) (.block 0 (.loop (.seq (.reg q83_3) (.seq (.cond (.t 10) .skip (.exit 0)) (.seq (.block 1 (.seq (.reg q83_4) (.seq (.seq (.reg q83_5) (.cond (.t 19) (.seq (.reg q83_6) .ret) .skip)) (.seq (.reg q83_7) (.seq (.reg q83_8) (.cond (.t 28) (.seq (.reg q83_9) .ret) .skip)))))) (.reg q83_10))))))) (.seq (.reg q83_11) .ret)))
theorem rc83:rcOf Try.prog Try.f83=some m83:=by kernel_rfl
theorem rv83:rRVs Try.prog Try.f83.results.toList=some [(.c true 1 2),(.t 3)]:=by kernel_rfl
theorem nm83:(Try.f83.name == "runtime.NumGoroutine")=false:=by kernel_rfl
def q84_0:List MO:=[Ma 2 (.box (.t 0)),Ma 4 (.mv (.c (.int .i64 0)))]
@[simp] theorem l84_0:q84_0.length=2:=rfl
instance:KR Try.f84.ntmps q84_0:=⟨[1,2],by kernel_rfl⟩
def q84_1:List MO:=[Ma 5 (.mv (.c (.int .i64 0)))]
@[simp] theorem l84_1:q84_1.length=1:=rfl
instance:KR Try.f84.ntmps q84_1:=⟨[1,2,5],by kernel_rfl⟩
def q84_2:List MO:=[Ma 8 (.faddr 0 (.t 2)),Ma 9 (.load false 1 (.t 8)),Ma 10 (.mv (.t 1)),Ma 11 (.slc 1 (.t 9) none (some (.t 10))),Ma 12 (.len (.t 11)),Ma 13 (.mv (.c (.int .i64 0)))]
@[simp] theorem l84_2:q84_2.length=6:=rfl
instance:KR Try.f84.ntmps q84_2:=⟨[5,11,12,13],by kernel_rfl⟩
def q84_3:List MO:=[Ma 14 (.bin .lss (.t 13) (.t 12))]
@[simp] theorem l84_3:q84_3.length=1:=rfl
instance:KR Try.f84.ntmps q84_3:=⟨[5,11,12,13,14],by kernel_rfl⟩
def q84_4:List MO:=[Ma 15 (.iaddr 1 (.t 11) (.t 13)),Ma 16 (.load false 1 (.t 15)),Ma 7 (.mv (.t 16))]
@[simp] theorem l84_4:q84_4.length=3:=rfl
instance:KR Try.f84.ntmps q84_4:=⟨[5,7,11,12,13],by kernel_rfl⟩
def q84_5:List MO:=[Ma 17 (.mv (.t 5)),Ma 18 (.mv (.t 7)),Ma 19 (.bin .add (.t 17) (.t 18)),Ma 5 (.mv (.t 19))]
@[simp] theorem l84_5:q84_5.length=4:=rfl
instance:KR Try.f84.ntmps q84_5:=⟨[5,11,12,13],by kernel_rfl⟩
def q84_6:List MO:=[Ma 20 (.bin .add (.t 13) (.c (.int .i64 1))),Ma 13 (.mv (.t 20))]
@[simp] theorem l84_6:q84_6.length=2:=rfl
instance:KR Try.f84.ntmps q84_6:=⟨[5,11,12,13],by kernel_rfl⟩
def q84_7:List MO:=[Ma 21 (.mv (.t 5)),Ma 4 (.mv (.t 21))]
@[simp] theorem l84_7:q84_7.length=2:=rfl
instance:KR Try.f84.ntmps q84_7:=⟨[4],by kernel_rfl⟩
def m84:MCode:=.seq (.reg q84_0) (.seq (.reg q84_1) (.seq (.seq (.reg q84_2) (.block 0 (.loop (.seq (.reg q84_3) (.seq (.cond (.t 14) .skip (.exit 0)) (.seq (.block 1 (.seq (.reg q84_4) (.reg q84_5))) (.reg q84_6))))))) (.seq (.reg q84_7) .ret)))
theorem rc84:rcOf Try.prog Try.f84=some m84:=by kernel_rfl
theorem rv84:rRVs Try.prog Try.f84.results.toList=some [(.t 4)]:=by kernel_rfl
theorem nm84:(Try.f84.name == "runtime.NumGoroutine")=false:=by kernel_rfl
def q85_0:List MO:=[Ma 2 (.box (.t 0)),Ma 4 (.mv (.c (.int .u64 0)))]
@[simp] theorem l85_0:q85_0.length=2:=rfl
instance:KR Try.f85.ntmps q85_0:=⟨[1,2],by kernel_rfl⟩
def q85_1:List MO:=[Ma 5 (.mv (.t 1)),Ma 6 (.bin .lss (.t 5) (.c (.int .i64 0))),Ma 7 (.mv (.t 6)),Mg 8 (.mv (.t 1)) 7 false,Mg 9 (.faddr 0 (.t 2)) 7 false,Mg 10 (.load false 1 (.t 9)) 7 false,Mg 11 (.len (.t 10)) 7 false,Mg 12 (.bin .geq (.t 8) (.t 11)) 7 false,Ma 13 (.pick (.t 7) (.c (.bool true)) (.t 12))]
@[simp] theorem l85_1:q85_1.length=9:=rfl
instance:KR Try.f85.ntmps q85_1:=⟨[1,2,13],by kernel_rfl⟩
def q85_2:List MO:=[Ma 4 (.mv (.c (.int .u64 0)))]
@[simp] theorem l85_2:q85_2.length=1:=rfl
instance:KR Try.f85.ntmps q85_2:=⟨[4],by kernel_rfl⟩
def q85_3:List MO:=[Ma 14 (.faddr 0 (.t 2)),Ma 15 (.load false 1 (.t 14)),Ma 16 (.mv (.t 1)),Ma 17 (.iaddr 1 (.t 15) (.t 16)),Ma 18 (.load false 1 (.t 17)),Ma 19 (.bin .shl (.c (.int .u64 1)) (.t 18)),Ma 20 (.bin .sub (.t 19) (.c (.int .u64 1))),Ma 4 (.mv (.t 20))]
@[simp] theorem l85_3:q85_3.length=8:=rfl
instance:KR Try.f85.ntmps q85_3:=⟨[4],by kernel_rfl⟩
def m85:MCode:=.seq (.reg q85_0) (.seq (.seq (.reg q85_1) (.cond (.t 13) (.seq (.reg q85_2) .ret) .skip)) (.seq (.reg q85_3) .ret))
theorem rc85:rcOf Try.prog Try.f85=some m85:=by kernel_rfl
theorem rv85:rRVs Try.prog Try.f85.results.toList=some [(.t 4)]:=by kernel_rfl
theorem nm85:(Try.f85.name == "runtime.NumGoroutine")=false:=by kernel_rfl
def q86_0:List MO:=[Ma 2 (.box (.t 0)),Ma 4 (.mv (.c (.int .u64 0))),Ma 5 (.mv (.c (.raw .nilIface)))]
@[simp] theorem l86_0:q86_0.length=3:=rfl
instance:KR Try.f86.ntmps q86_0:=⟨[1,2],by kernel_rfl⟩
def q86_1:List MO:=[Ma 9 (.mv (.t 1)),Ma 10 (.len (.t 9)),Ma 11 (.faddr 0 (.t 2)),Ma 12 (.load false 1 (.t 11)),Ma 13 (.len (.t 12)),Ma 14 (.bin .neq (.t 10) (.t 13))]
@[simp] theorem l86_1:q86_1.length=6:=rfl
instance:KR Try.f86.ntmps q86_1:=⟨[1,2,14],by kernel_rfl⟩
def q86_2:List MO:=[Ma 15 (.mkif 132 (.c (.int .i64 1))),Ma 4 (.mv (.c (.int .u64 0))),Ma 5 (.mv (.t 15))]
@[simp] theorem l86_2:q86_2.length=3:=rfl
instance:KR Try.f86.ntmps q86_2:=⟨[4,5],by kernel_rfl⟩
def q86_3:List MO:=[Ma 6 (.mv (.c (.int .u64 0)))]
@[simp] theorem l86_3:q86_3.length=1:=rfl
instance:KR Try.f86.ntmps q86_3:=⟨[1,2,6],by kernel_rfl⟩
def q86_4:List MO:=[Ma 16 (.mv (.t 1)),Ma 17 (.len (.t 16)),Ma 18 (.mv (.c (.int .i64 0)))]
@[simp] theorem l86_4:q86_4.length=3:=rfl
instance:KR Try.f86.ntmps q86_4:=⟨[2,6,16,17,18],by kernel_rfl⟩
def q86_5:List MO:=[Ma 19 (.bin .lss (.t 18) (.t 17))]
@[simp] theorem l86_5:q86_5.length=1:=rfl
instance:KR Try.f86.ntmps q86_5:=⟨[2,6,16,17,18,19],by kernel_rfl⟩
def q86_6:List MO:=[Ma 20 (.mv (.t 18)),Ma 21 (.iaddr 1 (.t 16) (.t 18)),Ma 22 (.load false 1 (.t 21)),Ma 7 (.mv (.t 20)),Ma 8 (.mv (.t 22))]
@[simp] theorem l86_6:q86_6.length=5:=rfl
instance:KR Try.f86.ntmps q86_6:=⟨[2,6,7,8,16,17,18],by kernel_rfl⟩
def q86_7:List MO:=[Ma 23 (.mv (.t 8)),Ma 24 (.bin .lss (.t 23) (.c (.int .i64 0))),Ma 25 (.mv (.t 24)),Mg 26 (.mv (.t 8)) 25 false,Mg 27 (.conv .u64 (.t 26)) 25 false,Mg 28 (.load true 1 (.t 2)) 25 false,Mg 29 (.mv (.t 7)) 25 false,Mg 30 (.call (.c (.fn 85 [])) [(.t 28),(.t 29)]) 25 false,Mg 31 (.bin .gtr (.t 27) (.t 30)) 25 false,Ma 32 (.pick (.t 25) (.c (.bool true)) (.t 31))]
@[simp] theorem l86_7:q86_7.length=10:=rfl
instance:KR Try.f86.ntmps q86_7:=⟨[2,6,7,8,16,17,18,32],by kernel_rfl⟩
def q86_8:List MO:=[Ma 33 (.mv (.t 7)),Ma 34 (.mkif 132 (.c (.int .i64 5))),Ma 35 (.call (.c (.fn 71 [])) [(.t 33),(.t 34)]),Ma 4 (.mv (.c (.int .u64 0))),Ma 5 (.mv (.t 35))]
@[simp] theorem l86_8:q86_8.length=5:=rfl
instance:KR Try.f86.ntmps q86_8:=⟨[4,5],by kernel_rfl⟩
def q86_9:List MO:=[Ma 36 (.mv (.t 6)),Ma 37 (.mv (.t 8)),Ma 38 (.conv .u64 (.t 37)),Ma 39 (.load true 1 (.t 2)),Ma 40 (.mv (.t 7)),Ma 41 (.call (.c (.fn 84 [])) [(.t 39),(.t 40)]),Ma 42 (.bin .shl (.t 38) (.t 41)),Ma 43 (.bin .or (.t 36) (.t 42)),Ma 6 (.mv (.t 43))]
@[simp] theorem l86_9:q86_9.length=9:=rfl
instance:KR Try.f86.ntmps q86_9:=⟨[2,6,16,17,18],by kernel_rfl⟩
def q86_10:List MO:=[Ma 44 (.bin .add (.t 18) (.c (.int .i64 1))),Ma 18 (.mv (.t 44))]
@[simp] theorem l86_10:q86_10.length=2:=rfl
instance:KR Try.f86.ntmps q86_10:=⟨[2,6,16,17,18],by kernel_rfl⟩
def q86_11:List MO:=[Ma 45 (.mv (.t 6)),Ma 4 (.mv (.t 45)),Ma 5 (.mv (.c (.raw .nilIface)))]
@[simp] theorem l86_11:q86_11.length=3:=rfl
instance:KR Try.f86.ntmps q86_11:=⟨[4,5],by kernel_rfl⟩
def m86:MCode:=.seq (.reg q86_0) (.seq (.seq (.reg q86_1) (.cond (.t 14) (.seq (.reg q86_2) .ret) .skip)) (.seq (.reg q86_3) (.seq (.seq (.reg q86_4) (.block 0 (.loop (.seq (.reg q86_5) (.seq (.cond (.t 19) .skip (.exit 0)) (.seq (.block 1 (.seq (.reg q86_6) (.seq (.seq (.reg q86_7) (.cond (.t 32) (.seq (.reg q86_8) .ret) .skip)) (.reg q86_9)))) (.reg q86_10))))))) (.seq (.reg q86_11) .ret))))
theorem rc86:rcOf Try.prog Try.f86=some m86:=by kernel_rfl
theorem rv86:rRVs Try.prog Try.f86.results.toList=some [(.t 4),(.t 5)]:=by kernel_rfl
theorem nm86:(Try.f86.name == "runtime.NumGoroutine")=false:=by kernel_rfl
def q61_0:List MO:=[Ma 3 (.box (.t 0)),Ma 6 (.mv (.c (.int .i64 0)))]
@[simp] theorem l61_0:q61_0.length=2:=rfl
instance:KR Try.f61.ntmps q61_0:=⟨[1,2,3],by kernel_rfl⟩
def q61_1:List MO:=[Ma 7 (.mv (.t 2)),Ma 8 (.bin .lss (.t 7) (.c (.int .i64 0))),Ma 9 (.mv (.t 8)),Mg 10 (.mv (.t 2)) 9 false,Mg 11 (.faddr 0 (.t 3)) 9 false,Mg 12 (.load false 1 (.t 11)) 9 false,Mg 13 (.len (.t 12)) 9 false,Mg 14 (.bin .geq (.t 10) (.t 13)) 9 false,Ma 15 (.pick (.t 9) (.c (.bool true)) (.t 14))]
@[simp] theorem l61_1:q61_1.length=9:=rfl
instance:KR Try.f61.ntmps q61_1:=⟨[1,2,3,15],by kernel_rfl⟩
def q61_2:List MO:=[Ma 6 (.mv (.c (.int .i64 0)))]
@[simp] theorem l61_2:q61_2.length=1:=rfl
instance:KR Try.f61.ntmps q61_2:=⟨[6],by kernel_rfl⟩
def q61_3:List MO:=[Ma 16 (.mv (.t 1)),Ma 17 (.load true 1 (.t 3)),Ma 18 (.mv (.t 2)),Ma 19 (.call (.c (.fn 84 [])) [(.t 17),(.t 18)]),Ma 20 (.bin .shr (.t 16) (.t 19)),Ma 21 (.load true 1 (.t 3)),Ma 22 (.mv (.t 2)),Ma 23 (.call (.c (.fn 85 [])) [(.t 21),(.t 22)]),Ma 24 (.bin .and (.t 20) (.t 23)),Ma 25 (.conv .i64 (.t 24)),Ma 6 (.mv (.t 25))]
@[simp] theorem l61_3:q61_3.length=11:=rfl
def p61_3:List (List Nat):=[[],[],[],[1,2],[0,3],[],[],[5,6,3],[4,7],[8],[9,7,0,1,2,3,4,5,6,7,8,9]]
instance:KD Try.f61.ntmps q61_3 p61_3:=⟨[[],[],[],[1,2],[0,1,2,3],[],[],[1,2,3,5,6],[0,1,2,3,4,5,6,7],[0,1,2,3,4,5,6,7,8],[0,1,2,3,4,5,6,7,8,9]],[6],by kernel_rfl⟩
def m61:MCode:=.seq (.reg q61_0) (.seq (.seq (.reg q61_1) (.cond (.t 15) (.seq (.reg q61_2) .ret) .skip)) (.seq (.draw q61_3 p61_3) .ret))
theorem rc61:rcOf Try.prog Try.f61=some m61:=by kernel_rfl
theorem rv61:rRVs Try.prog Try.f61.results.toList=some [(.t 6)]:=by kernel_rfl
theorem nm61:(Try.f61.name == "runtime.NumGoroutine")=false:=by kernel_rfl
def q62_0:List MO:=[Ma 1 (.box (.t 0)),Ma 2 (.mv (.c (.int .u64 0))),Ma 3 (.mv (.c (.raw .nilIface)))]
@[simp] theorem l62_0:q62_0.length=3:=rfl
instance:KR Try.f62.ntmps q62_0:=⟨[1],by kernel_rfl⟩
def q62_1:List MO:=[Ma 5 (.faddr 0 (.t 1)),Ma 6 (.load false 1 (.t 5)),Ma 7 (.bin .gtr (.t 6) (.c (.int .i64 8)))]
@[simp] theorem l62_1:q62_1.length=3:=rfl
instance:KR Try.f62.ntmps q62_1:=⟨[1,7],by kernel_rfl⟩
def q62_2:List MO:=[Ma 8 (.mkif 132 (.c (.int .i64 5))),Ma 9 (.call (.c (.fn 71 [])) [(.c (.int .i64 0)),(.t 8)]),Ma 2 (.mv (.c (.int .u64 0))),Ma 3 (.mv (.t 9))]
@[simp] theorem l62_2:q62_2.length=4:=rfl
instance:KR Try.f62.ntmps q62_2:=⟨[2,3],by kernel_rfl⟩
def q62_3:List MO:=[Ma 4 (.mv (.c (.int .i64 0)))]
@[simp] theorem l62_3:q62_3.length=1:=rfl
instance:KR Try.f62.ntmps q62_3:=⟨[1,4],by kernel_rfl⟩
def q62_4:List MO:=[Ma 10 (.faddr 1 (.t 1)),Ma 11 (.load false 1 (.t 10))]
@[simp] theorem l62_4:q62_4.length=2:=rfl
instance:KR Try.f62.ntmps q62_4:=⟨[1,4,11],by kernel_rfl⟩
def q62_5:List MO:=[Ma 4 (.mv (.c (.int .i64 1)))]
@[simp] theorem l62_5:q62_5.length=1:=rfl
instance:KR Try.f62.ntmps q62_5:=⟨[1,4],by kernel_rfl⟩
def q62_6:List MO:=[Ma 12 (.call (.c (.fn 82 [])) []),Ma 13 (.faddr 0 (.t 1)),Ma 14 (.load false 1 (.t 13)),Ma 15 (.mv (.t 4)),Ma 16 (.faddr 2 (.t 1)),Ma 17 (.load false 1 (.t 16)),Ma 18 (.faddr 3 (.t 1)),Ma 19 (.load false 1 (.t 18)),Ma 20 (.faddr 4 (.t 1)),Ma 21 (.load false 1 (.t 20)),Ma 22 (.bsl 1 5 [(.int .i64 0)] [(0,(1,(.t 14))),(1,(1,(.t 15))),(2,(1,(.t 17))),(3,(1,(.t 19))),(4,(1,(.t 21)))]),Ma 23 (.call (.c (.fn 86 [])) [(.t 12),(.t 22)]),Ma 24 (.ext (.t 23) 0),Ma 25 (.ext (.t 23) 1),Ma 2 (.mv (.t 24)),Ma 3 (.mv (.t 25))]
@[simp] theorem l62_6:q62_6.length=16:=rfl
def p62_6:List (List Nat):=[[],[],[1],[],[],[4],[],[6],[],[8],[2,3,5,7,9],[0,10,0],[11],[11],[12,11,0,1,2,3,4,5,6,7,8,9,10,11,12,13],[13,14,0,1,2,3,4,5,6,7,8,9,10,11,12,13,14]]
instance:KD Try.f62.ntmps q62_6 p62_6:=⟨[[],[],[1],[],[],[4],[],[6],[],[8],[1,2,3,4,5,6,7,8,9],[0,1,2,3,4,5,6,7,8,9,10],[0,1,2,3,4,5,6,7,8,9,10,11],[0,1,2,3,4,5,6,7,8,9,10,11],[0,1,2,3,4,5,6,7,8,9,10,11,12,13],[0,1,2,3,4,5,6,7,8,9,10,11,12,13,14]],[2,3],by kernel_rfl⟩
def m62:MCode:=.seq (.reg q62_0) (.seq (.seq (.reg q62_1) (.cond (.t 7) (.seq (.reg q62_2) .ret) .skip)) (.seq (.reg q62_3) (.seq (.seq (.reg q62_4) (.cond (.t 11) (.reg q62_5) .skip)) (.seq (.draw q62_6 p62_6) .ret))))
theorem rc62:rcOf Try.prog Try.f62=some m62:=by kernel_rfl
theorem rv62:rRVs Try.prog Try.f62.results.toList=some [(.t 2),(.t 3)]:=by kernel_rfl
theorem nm62:(Try.f62.name == "runtime.NumGoroutine")=false:=by kernel_rfl
def q55_0:List MO:=[Ma 2 (.alloc [(.int .i64 0),(.bool false),(.int .i64 0),(.int .i64 0),(.int .i64 0)])]
@[simp] theorem l55_0:q55_0.length=1:=rfl
instance:KR Try.f55.ntmps q55_0:=⟨[0,2],by kernel_rfl⟩
def q55_1:List MO:=[Ma 4 (.call (.c (.fn 82 [])) []),Ma 3 (.alloc [.nsl]),Mb (.store 1 (.t 3) (.t 4))]
@[simp] theorem l55_1:q55_1.length=3:=rfl
instance:KR Try.f55.ntmps q55_1:=⟨[0,2,3],by kernel_rfl⟩
def q55_2:List MO:=[Ma 5 (.load true 1 (.t 3)),Ma 6 (.mv (.t 0)),Ma 7 (.call (.c (.fn 61 [])) [(.t 5),(.t 6),(.c (.int .i64 0))]),Ma 8 (.load true 1 (.t 3)),Ma 9 (.mv (.t 0)),Ma 10 (.call (.c (.fn 61 [])) [(.t 8),(.t 9),(.c (.int .i64 1))]),Ma 11 (.bin .eql (.t 10) (.c (.int .i64 1))),Ma 12 (.load true 1 (.t 3)),Ma 13 (.mv (.t 0)),Ma 14 (.call (.c (.fn 61 [])) [(.t 12),(.t 13),(.c (.int .i64 2))]),Ma 15 (.load true 1 (.t 3)),Ma 16 (.mv (.t 0)),Ma 17 (.call (.c (.fn 61 [])) [(.t 15),(.t 16),(.c (.int .i64 3))]),Ma 18 (.load true 1 (.t 3)),Ma 19 (.mv (.t 0)),Ma 20 (.call (.c (.fn 61 [])) [(.t 18),(.t 19),(.c (.int .i64 4))]),Ma 21 (.build [(.int .i64 0),(.bool false),(.int .i64 0),(.int .i64 0),(.int .i64 0)] [(0,(1,(.t 7))),(1,(1,(.t 11))),(2,(1,(.t 14))),(3,(1,(.t 17))),(4,(1,(.t 20)))]),Mb (.store 5 (.t 2) (.t 21))]
@[simp] theorem l55_2:q55_2.length=18:=rfl
def p55_2:List (List Nat):=[[],[],[0,1],[],[],[3,4,2],[5],[],[],[7,8,5],[],[],[10,11,9],[],[],[13,14,12],[2,6,9,12,15],[16,15,0,1,2,3,4,5,6,7,8,9,10,11,12,13,14,15,16]]
instance:KD Try.f55.ntmps q55_2 p55_2:=⟨[[],[],[0,1],[],[],[0,1,2,3,4],[0,1,2,3,4,5],[],[],[0,1,2,3,4,5,7,8],[],[],[0,1,2,3,4,5,7,8,9,10,11],[],[],[0,1,2,3,4,5,7,8,9,10,11,12,13,14],[0,1,2,3,4,5,6,7,8,9,10,11,12,13,14,15],[0,1,2,3,4,5,6,7,8,9,10,11,12,13,14,15,16]],[2],by kernel_rfl⟩
def m55:MCode:=.seq (.reg q55_0) (.seq (.reg q55_1) (.seq (.draw q55_2 p55_2) .ret))
theorem rc55:rcOf Try.prog Try.f55=some m55:=by kernel_rfl
theorem rv55:rRVs Try.prog Try.f55.results.toList=some [(.c true 5 2)]:=by kernel_rfl
theorem nm55:(Try.f55.name == "runtime.NumGoroutine")=false:=by kernel_rfl
def q87_0:List MO:=[Ma 2 (.alloc [(.int .i64 0),(.int .i64 0),(.int .i64 0),(.int .i64 0),(.int .i64 0)])]
@[simp] theorem l87_0:q87_0.length=1:=rfl
instance:KR Try.f87.ntmps q87_0:=⟨[0,2],by kernel_rfl⟩
def q87_1:List MO:=[Ma 4 (.call (.c (.fn 100 [])) []),Ma 3 (.alloc [.nsl]),Mb (.store 1 (.t 3) (.t 4))]
@[simp] theorem l87_1:q87_1.length=3:=rfl
instance:KR Try.f87.ntmps q87_1:=⟨[0,2,3],by kernel_rfl⟩
def q87_2:List MO:=[Ma 5 (.load true 1 (.t 3)),Ma 6 (.mv (.t 0)),Ma 7 (.call (.c (.fn 61 [])) [(.t 5),(.t 6),(.c (.int .i64 0))]),Ma 8 (.load true 1 (.t 3)),Ma 9 (.mv (.t 0)),Ma 10 (.call (.c (.fn 61 [])) [(.t 8),(.t 9),(.c (.int .i64 1))]),Ma 11 (.load true 1 (.t 3)),Ma 12 (.mv (.t 0)),Ma 13 (.call (.c (.fn 61 [])) [(.t 11),(.t 12),(.c (.int .i64 2))]),Ma 14 (.load true 1 (.t 3)),Ma 15 (.mv (.t 0)),Ma 16 (.call (.c (.fn 61 [])) [(.t 14),(.t 15),(.c (.int .i64 3))]),Ma 17 (.load true 1 (.t 3)),Ma 18 (.mv (.t 0)),Ma 19 (.call (.c (.fn 61 [])) [(.t 17),(.t 18),(.c (.int .i64 4))]),Ma 20 (.build [(.int .i64 0),(.int .i64 0),(.int .i64 0),(.int .i64 0),(.int .i64 0)] [(0,(1,(.t 7))),(1,(1,(.t 10))),(2,(1,(.t 13))),(3,(1,(.t 16))),(4,(1,(.t 19)))]),Mb (.store 5 (.t 2) (.t 20))]
@[simp] theorem l87_2:q87_2.length=17:=rfl
def p87_2:List (List Nat):=[[],[],[0,1],[],[],[3,4,2],[],[],[6,7,5],[],[],[9,10,8],[],[],[12,13,11],[2,5,8,11,14],[15,14,0,1,2,3,4,5,6,7,8,9,10,11,12,13,14,15]]
instance:KD Try.f87.ntmps q87_2 p87_2:=⟨[[],[],[0,1],[],[],[0,1,2,3,4],[],[],[0,1,2,3,4,5,6,7],[],[],[0,1,2,3,4,5,6,7,8,9,10],[],[],[0,1,2,3,4,5,6,7,8,9,10,11,12,13],[0,1,2,3,4,5,6,7,8,9,10,11,12,13,14],[0,1,2,3,4,5,6,7,8,9,10,11,12,13,14,15]],[2],by kernel_rfl⟩
def m87:MCode:=.seq (.reg q87_0) (.seq (.reg q87_1) (.seq (.draw q87_2 p87_2) .ret))
theorem rc87:rcOf Try.prog Try.f87=some m87:=by kernel_rfl
theorem rv87:rRVs Try.prog Try.f87.results.toList=some [(.c true 5 2)]:=by kernel_rfl
theorem nm87:(Try.f87.name == "runtime.NumGoroutine")=false:=by kernel_rfl
def q91_0:List MO:=[Ma 1 (.box (.t 0)),Ma 2 (.mv (.c (.int .u64 0))),Ma 3 (.mv (.c (.raw .nilIface)))]
@[simp] theorem l91_0:q91_0.length=3:=rfl
instance:KR Try.f91.ntmps q91_0:=⟨[1],by kernel_rfl⟩
def q91_1:List MO:=[Ma 4 (.faddr 0 (.t 1)),Ma 5 (.load false 1 (.t 4)),Ma 6 (.bin .gtr (.t 5) (.c (.int .i64 5)))]
@[simp] theorem l91_1:q91_1.length=3:=rfl
instance:KR Try.f91.ntmps q91_1:=⟨[1,6],by kernel_rfl⟩
def q91_2:List MO:=[Ma 7 (.mkif 132 (.c (.int .i64 5))),Ma 8 (.call (.c (.fn 71 [])) [(.c (.int .i64 0)),(.t 7)]),Ma 2 (.mv (.c (.int .u64 0))),Ma 3 (.mv (.t 8))]
@[simp] theorem l91_2:q91_2.length=4:=rfl
instance:KR Try.f91.ntmps q91_2:=⟨[2,3],by kernel_rfl⟩
def q91_3:List MO:=[Ma 9 (.call (.c (.fn 60 [])) []),Ma 10 (.faddr 0 (.t 1)),Ma 11 (.load false 1 (.t 10)),Ma 12 (.faddr 1 (.t 1)),Ma 13 (.load false 1 (.t 12)),Ma 14 (.faddr 2 (.t 1)),Ma 15 (.load false 1 (.t 14)),Ma 16 (.faddr 3 (.t 1)),Ma 17 (.load false 1 (.t 16)),Ma 18 (.faddr 4 (.t 1)),Ma 19 (.load false 1 (.t 18)),Ma 20 (.faddr 5 (.t 1)),Ma 21 (.load false 1 (.t 20)),Ma 22 (.bsl 1 6 [(.int .i64 0)] [(0,(1,(.t 11))),(1,(1,(.t 13))),(2,(1,(.t 15))),(3,(1,(.t 17))),(4,(1,(.t 19))),(5,(1,(.t 21)))]),Ma 23 (.call (.c (.fn 86 [])) [(.t 9),(.t 22)]),Ma 24 (.ext (.t 23) 0),Ma 25 (.ext (.t 23) 1),Ma 2 (.mv (.t 24)),Ma 3 (.mv (.t 25))]
@[simp] theorem l91_3:q91_3.length=19:=rfl
def p91_3:List (List Nat):=[[],[],[1],[],[3],[],[5],[],[7],[],[9],[],[11],[2,4,6,8,10,12],[0,13,0],[14],[14],[15,14,0,1,2,3,4,5,6,7,8,9,10,11,12,13,14,15,16],[16,17,0,1,2,3,4,5,6,7,8,9,10,11,12,13,14,15,16,17]]
instance:KD Try.f91.ntmps q91_3 p91_3:=⟨[[],[],[1],[],[3],[],[5],[],[7],[],[9],[],[11],[1,2,3,4,5,6,7,8,9,10,11,12],[0,1,2,3,4,5,6,7,8,9,10,11,12,13],[0,1,2,3,4,5,6,7,8,9,10,11,12,13,14],[0,1,2,3,4,5,6,7,8,9,10,11,12,13,14],[0,1,2,3,4,5,6,7,8,9,10,11,12,13,14,15,16],[0,1,2,3,4,5,6,7,8,9,10,11,12,13,14,15,16,17]],[2,3],by kernel_rfl⟩
def m91:MCode:=.seq (.reg q91_0) (.seq (.seq (.reg q91_1) (.cond (.t 6) (.seq (.reg q91_2) .ret) .skip)) (.seq (.draw q91_3 p91_3) .ret))
theorem rc91:rcOf Try.prog Try.f91=some m91:=by kernel_rfl
theorem rv91:rRVs Try.prog Try.f91.results.toList=some [(.t 2),(.t 3)]:=by kernel_rfl
theorem nm91:(Try.f91.name == "runtime.NumGoroutine")=false:=by kernel_rfl
def q21_0:List MO:=[Ma 2 (.alloc [(.int .i64 0),(.int .i64 0),(.int .i64 0),(.int .i64 0),(.int .i64 0),(.int .i64 0)])]
@[simp] theorem l21_0:q21_0.length=1:=rfl
instance:KR Try.f21.ntmps q21_0:=⟨[0,2],by kernel_rfl⟩
def q21_1:List MO:=[Ma 4 (.call (.c (.fn 60 [])) []),Ma 3 (.alloc [.nsl]),Mb (.store 1 (.t 3) (.t 4))]
@[simp] theorem l21_1:q21_1.length=3:=rfl
instance:KR Try.f21.ntmps q21_1:=⟨[0,2,3],by kernel_rfl⟩
def q21_2:List MO:=[Ma 5 (.load true 1 (.t 3)),Ma 6 (.mv (.t 0)),Ma 7 (.call (.c (.fn 61 [])) [(.t 5),(.t 6),(.c (.int .i64 0))]),Ma 8 (.load true 1 (.t 3)),Ma 9 (.mv (.t 0)),Ma 10 (.call (.c (.fn 61 [])) [(.t 8),(.t 9),(.c (.int .i64 1))]),Ma 11 (.load true 1 (.t 3)),Ma 12 (.mv (.t 0)),Ma 13 (.call (.c (.fn 61 [])) [(.t 11),(.t 12),(.c (.int .i64 2))]),Ma 14 (.load true 1 (.t 3)),Ma 15 (.mv (.t 0)),Ma 16 (.call (.c (.fn 61 [])) [(.t 14),(.t 15),(.c (.int .i64 3))]),Ma 17 (.load true 1 (.t 3)),Ma 18 (.mv (.t 0)),Ma 19 (.call (.c (.fn 61 [])) [(.t 17),(.t 18),(.c (.int .i64 4))]),Ma 20 (.load true 1 (.t 3)),Ma 21 (.mv (.t 0)),Ma 22 (.call (.c (.fn 61 [])) [(.t 20),(.t 21),(.c (.int .i64 5))]),Ma 23 (.build [(.int .i64 0),(.int .i64 0),(.int .i64 0),(.int .i64 0),(.int .i64 0),(.int .i64 0)] [(0,(1,(.t 7))),(1,(1,(.t 10))),(2,(1,(.t 13))),(3,(1,(.t 16))),(4,(1,(.t 19))),(5,(1,(.t 22)))]),Mb (.store 6 (.t 2) (.t 23))]
@[simp] theorem l21_2:q21_2.length=20:=rfl
def p21_2:List (List Nat):=[[],[],[0,1],[],[],[3,4,2],[],[],[6,7,5],[],[],[9,10,8],[],[],[12,13,11],[],[],[15,16,14],[2,5,8,11,14,17],[18,17,0,1,2,3,4,5,6,7,8,9,10,11,12,13,14,15,16,17,18]]
instance:KD Try.f21.ntmps q21_2 p21_2:=⟨[[],[],[0,1],[],[],[0,1,2,3,4],[],[],[0,1,2,3,4,5,6,7],[],[],[0,1,2,3,4,5,6,7,8,9,10],[],[],[0,1,2,3,4,5,6,7,8,9,10,11,12,13],[],[],[0,1,2,3,4,5,6,7,8,9,10,11,12,13,14,15,16],[0,1,2,3,4,5,6,7,8,9,10,11,12,13,14,15,16,17],[0,1,2,3,4,5,6,7,8,9,10,11,12,13,14,15,16,17,18]],[2],by kernel_rfl⟩
def q67_0:List MO:=[Ma 2 (.box (.t 0)),Ma 4 (.alloc [(.int .i64 0),(.int .i64 0),(.int .i64 0),(.int .i64 0),(.int .i64 0),(.int .i64 0)]),Ma 5 (.mv (.c (.bool false)))]
@[simp] theorem l67_0:q67_0.length=3:=rfl
instance:KR Try.f67.ntmps q67_0:=⟨[1,2,4],by kernel_rfl⟩
def q67_1:List MO:=[Ma 7 (.faddr 3 (.t 2)),Ma 8 (.load false 1 (.t 7)),Ma 9 (.faddr 4 (.t 2)),Ma 10 (.load false 1 (.t 9)),Ma 11 (.mv (.t 1)),Ma 12 (.build [(.int .i64 0),(.int .i64 0),(.int .i64 0),(.int .i64 0),(.int .i64 0),(.int .i64 0)] [(1,(1,(.t 8))),(2,(1,(.t 10))),(3,(1,(.t 11)))]),Ma 6 (.alloc [(.int .i64 0),(.int .i64 0),(.int .i64 0),(.int .i64 0),(.int .i64 0),(.int .i64 0)]),Mb (.store 6 (.t 6) (.t 12))]
@[simp] theorem l67_1:q67_1.length=8:=rfl
instance:KR Try.f67.ntmps q67_1:=⟨[2,4,6],by kernel_rfl⟩
def q67_2:List MO:=[Ma 13 (.faddr 0 (.t 2)),Ma 14 (.load false 1 (.t 13))]
@[simp] theorem l67_2:q67_2.length=2:=rfl
instance:KR Try.f67.ntmps q67_2:=⟨[4,6,14],by kernel_rfl⟩
def q67_3:List MO:=[Ma 17 (.bin .eql (.t 14) (.c (.int .i64 5))),Ma 16 (.mv (.t 17))]
@[simp] theorem l67_3:q67_3.length=2:=rfl
instance:KR Try.f67.ntmps q67_3:=⟨[4,6,14,16],by kernel_rfl⟩
def q67_4:List MO:=[Ma 18 (.faddr 0 (.t 6)),Mb (.store 1 (.t 18) (.c (.int .i64 2)))]
@[simp] theorem l67_4:q67_4.length=2:=rfl
instance:KR Try.f67.ntmps q67_4:=⟨[4,6],by kernel_rfl⟩
def q67_5:List MO:=[Ma 20 (.bin .eql (.t 14) (.c (.int .i64 6))),Ma 19 (.mv (.t 20))]
@[simp] theorem l67_5:q67_5.length=2:=rfl
instance:KR Try.f67.ntmps q67_5:=⟨[4,6,14,19],by kernel_rfl⟩
def q67_6:List MO:=[Ma 21 (.faddr 0 (.t 6)),Mb (.store 1 (.t 21) (.c (.int .i64 3)))]
@[simp] theorem l67_6:q67_6.length=2:=rfl
instance:KR Try.f67.ntmps q67_6:=⟨[4,6],by kernel_rfl⟩
def q67_7:List MO:=[Ma 23 (.bin .eql (.t 14) (.c (.int .i64 7))),Ma 22 (.mv (.t 23))]
@[simp] theorem l67_7:q67_7.length=2:=rfl
instance:KR Try.f67.ntmps q67_7:=⟨[4,6,14,22],by kernel_rfl⟩
def q67_8:List MO:=[Ma 24 (.faddr 0 (.t 6)),Mb (.store 1 (.t 24) (.c (.int .i64 4)))]
@[simp] theorem l67_8:q67_8.length=2:=rfl
instance:KR Try.f67.ntmps q67_8:=⟨[4,6],by kernel_rfl⟩
def q67_9:List MO:=[Ma 26 (.bin .eql (.t 14) (.c (.int .i64 8))),Ma 25 (.mv (.t 26))]
@[simp] theorem l67_9:q67_9.length=2:=rfl
instance:KR Try.f67.ntmps q67_9:=⟨[4,6,25],by kernel_rfl⟩
def q67_10:List MO:=[Ma 27 (.faddr 0 (.t 6)),Mb (.store 1 (.t 27) (.c (.int .i64 5)))]
@[simp] theorem l67_10:q67_10.length=2:=rfl
instance:KR Try.f67.ntmps q67_10:=⟨[4,6],by kernel_rfl⟩
def q67_11:List MO:=[Ma 15 (.build [(.int .i64 0),(.int .i64 0),(.int .i64 0),(.int .i64 0),(.int .i64 0),(.int .i64 0)] []),Mb (.store 6 (.t 4) (.t 15)),Ma 5 (.mv (.c (.bool false)))]
@[simp] theorem l67_11:q67_11.length=3:=rfl
instance:KR Try.f67.ntmps q67_11:=⟨[4,5],by kernel_rfl⟩
def q67_12:List MO:=[Ma 28 (.load true 6 (.t 6)),Mb (.store 6 (.t 4) (.t 28)),Ma 5 (.mv (.c (.bool true)))]
@[simp] theorem l67_12:q67_12.length=3:=rfl
instance:KR Try.f67.ntmps q67_12:=⟨[4,5],by kernel_rfl⟩
def m67:MCode:=.seq (.reg q67_0) (.seq (.reg q67_1) (.seq (.seq (.reg q67_2) (.block 0 (.seq (.reg q67_3) (.cond (.t 16) (.reg q67_4) (.seq (.reg q67_5) (.cond (.t 19) (.reg q67_6) (.seq (.reg q67_7) (.cond (.t 22) (.reg q67_8) (.seq (.reg q67_9) (.cond (.t 25) (.reg q67_10) (.seq (.reg q67_11) .ret))))))))))) (.seq (.reg q67_12) .ret)))
theorem rc67:rcOf Try.prog Try.f67=some m67:=by kernel_rfl
theorem rv67:rRVs Try.prog Try.f67.results.toList=some [(.c true 6 4),(.t 5)]:=by kernel_rfl
theorem nm67:(Try.f67.name == "runtime.NumGoroutine")=false:=by kernel_rfl
def q75_0:List MO:=[Ma 4 (.mv (.c (.int .u64 0))),Ma 5 (.mv (.c (.int .i64 0))),Ma 6 (.mv (.c (.int .i64 0)))]
@[simp] theorem l75_0:q75_0.length=3:=rfl
instance:KR Try.f75.ntmps q75_0:=⟨[0,1],by kernel_rfl⟩
def q75_1:List MO:=[Ma 13 (.mv (.t 1)),Ma 14 (.len (.t 13)),Ma 15 (.mv (.t 0)),Ma 16 (.len (.t 15)),Ma 17 (.bin .neq (.t 14) (.t 16))]
@[simp] theorem l75_1:q75_1.length=5:=rfl
instance:KR Try.f75.ntmps q75_1:=⟨[0,1,17],by kernel_rfl⟩
def q75_2:List MO:=[Ma 4 (.mv (.c (.int .u64 0))),Ma 5 (.mv (.c (.int .i64 1))),Ma 6 (.mv (.c (.int .i64 0)))]
@[simp] theorem l75_2:q75_2.length=3:=rfl
instance:KR Try.f75.ntmps q75_2:=⟨[4,5,6],by kernel_rfl⟩
def q75_3:List MO:=[Ma 7 (.mv (.c (.int .i64 0)))]
@[simp] theorem l75_3:q75_3.length=1:=rfl
instance:KR Try.f75.ntmps q75_3:=⟨[0,1,7],by kernel_rfl⟩
def q75_4:List MO:=[Ma 18 (.mv (.t 7)),Ma 19 (.mv (.t 1)),Ma 20 (.len (.t 19)),Ma 21 (.bin .lss (.t 18) (.t 20))]
@[simp] theorem l75_4:q75_4.length=4:=rfl
instance:KR Try.f75.ntmps q75_4:=⟨[0,1,7,21],by kernel_rfl⟩
def q75_5:List MO:=[Ma 24 (.mv (.t 1)),Ma 25 (.mv (.t 7)),Ma 26 (.iaddr 1 (.t 24) (.t 25)),Ma 27 (.load false 1 (.t 26)),Ma 8 (.mv (.t 27))]
@[simp] theorem l75_5:q75_5.length=5:=rfl
instance:KR Try.f75.ntmps q75_5:=⟨[0,1,7,8],by kernel_rfl⟩
def q75_6:List MO:=[Ma 28 (.mv (.t 8)),Ma 29 (.bin .lss (.t 28) (.c (.int .i64 0)))]
@[simp] theorem l75_6:q75_6.length=2:=rfl
instance:KR Try.f75.ntmps q75_6:=⟨[0,1,7,8,29],by kernel_rfl⟩
def q75_7:List MO:=[Ma 30 (.mv (.t 7)),Ma 4 (.mv (.c (.int .u64 0))),Ma 5 (.mv (.c (.int .i64 5))),Ma 6 (.mv (.t 30))]
@[simp] theorem l75_7:q75_7.length=4:=rfl
instance:KR Try.f75.ntmps q75_7:=⟨[4,5,6],by kernel_rfl⟩
def q75_8:List MO:=[Ma 9 (.mv (.c (.int .i64 0)))]
@[simp] theorem l75_8:q75_8.length=1:=rfl
instance:KR Try.f75.ntmps q75_8:=⟨[0,1,7,8,9],by kernel_rfl⟩
def q75_9:List MO:=[Ma 31 (.mv (.t 9)),Ma 32 (.mv (.t 0)),Ma 33 (.mv (.t 7)),Ma 34 (.iaddr 1 (.t 32) (.t 33)),Ma 35 (.load false 1 (.t 34)),Ma 36 (.bin .lss (.t 31) (.t 35))]
@[simp] theorem l75_9:q75_9.length=6:=rfl
instance:KR Try.f75.ntmps q75_9:=⟨[0,1,7,8,9,36],by kernel_rfl⟩
def q75_10:List MO:=[Ma 39 (.mv (.t 8)),Ma 40 (.bin .quo (.t 39) (.c (.int .i64 2))),Ma 8 (.mv (.t 40))]
@[simp] theorem l75_10:q75_10.length=3:=rfl
instance:KR Try.f75.ntmps q75_10:=⟨[0,1,7,8,9],by kernel_rfl⟩
def q75_11:List MO:=[Ma 37 (.mv (.t 9)),Ma 38 (.bin .add (.t 37) (.c (.int .i64 1))),Ma 9 (.mv (.t 38))]
@[simp] theorem l75_11:q75_11.length=3:=rfl
instance:KR Try.f75.ntmps q75_11:=⟨[0,1,7,8,9],by kernel_rfl⟩
def q75_12:List MO:=[Ma 41 (.mv (.t 8)),Ma 42 (.bin .gtr (.t 41) (.c (.int .i64 0)))]
@[simp] theorem l75_12:q75_12.length=2:=rfl
instance:KR Try.f75.ntmps q75_12:=⟨[0,1,7,42],by kernel_rfl⟩
def q75_13:List MO:=[Ma 43 (.mv (.t 7)),Ma 4 (.mv (.c (.int .u64 0))),Ma 5 (.mv (.c (.int .i64 5))),Ma 6 (.mv (.t 43))]
@[simp] theorem l75_13:q75_13.length=4:=rfl
instance:KR Try.f75.ntmps q75_13:=⟨[4,5,6],by kernel_rfl⟩
def q75_14:List MO:=[Ma 22 (.mv (.t 7)),Ma 23 (.bin .add (.t 22) (.c (.int .i64 1))),Ma 7 (.mv (.t 23))]
@[simp] theorem l75_14:q75_14.length=3:=rfl
instance:KR Try.f75.ntmps q75_14:=⟨[0,1,7],by kernel_rfl⟩
def q75_15:List MO:=[Ma 10 (.mv (.c (.int .u64 0)))]
@[simp] theorem l75_15:q75_15.length=1:=rfl
instance:KR Try.f75.ntmps q75_15:=⟨[0,1,10],by kernel_rfl⟩
def q75_16:List MO:=[Ma 44 (.mv (.t 1)),Ma 45 (.len (.t 44)),Ma 46 (.bin .sub (.t 45) (.c (.int .i64 1))),Ma 11 (.mv (.t 46))]
@[simp] theorem l75_16:q75_16.length=4:=rfl
instance:KR Try.f75.ntmps q75_16:=⟨[0,1,10,11],by kernel_rfl⟩
def q75_17:List MO:=[Ma 47 (.mv (.t 11)),Ma 48 (.bin .geq (.t 47) (.c (.int .i64 0)))]
@[simp] theorem l75_17:q75_17.length=2:=rfl
instance:KR Try.f75.ntmps q75_17:=⟨[0,1,10,11,48],by kernel_rfl⟩
def q75_18:List MO:=[Ma 12 (.mv (.c (.int .i64 0)))]
@[simp] theorem l75_18:q75_18.length=1:=rfl
instance:KR Try.f75.ntmps q75_18:=⟨[0,1,10,11,12],by kernel_rfl⟩
def q75_19:List MO:=[Ma 51 (.mv (.t 12)),Ma 52 (.mv (.t 0)),Ma 53 (.mv (.t 11)),Ma 54 (.iaddr 1 (.t 52) (.t 53)),Ma 55 (.load false 1 (.t 54)),Ma 56 (.bin .lss (.t 51) (.t 55))]
@[simp] theorem l75_19:q75_19.length=6:=rfl
instance:KR Try.f75.ntmps q75_19:=⟨[0,1,10,11,12,56],by kernel_rfl⟩
def q75_20:List MO:=[Ma 59 (.mv (.t 10)),Ma 60 (.bin .mul (.t 59) (.c (.int .u64 2))),Ma 10 (.mv (.t 60))]
@[simp] theorem l75_20:q75_20.length=3:=rfl
instance:KR Try.f75.ntmps q75_20:=⟨[0,1,10,11,12],by kernel_rfl⟩
def q75_21:List MO:=[Ma 57 (.mv (.t 12)),Ma 58 (.bin .add (.t 57) (.c (.int .i64 1))),Ma 12 (.mv (.t 58))]
@[simp] theorem l75_21:q75_21.length=3:=rfl
instance:KR Try.f75.ntmps q75_21:=⟨[0,1,10,11,12],by kernel_rfl⟩
def q75_22:List MO:=[Ma 61 (.mv (.t 10)),Ma 62 (.mv (.t 1)),Ma 63 (.mv (.t 11)),Ma 64 (.iaddr 1 (.t 62) (.t 63)),Ma 65 (.load false 1 (.t 64)),Ma 66 (.conv .u64 (.t 65)),Ma 67 (.bin .add (.t 61) (.t 66)),Ma 10 (.mv (.t 67))]
@[simp] theorem l75_22:q75_22.length=8:=rfl
instance:KR Try.f75.ntmps q75_22:=⟨[0,1,10,11],by kernel_rfl⟩
def q75_23:List MO:=[Ma 49 (.mv (.t 11)),Ma 50 (.bin .sub (.t 49) (.c (.int .i64 1))),Ma 11 (.mv (.t 50))]
@[simp] theorem l75_23:q75_23.length=3:=rfl
instance:KR Try.f75.ntmps q75_23:=⟨[0,1,10,11],by kernel_rfl⟩
def q75_24:List MO:=[Ma 68 (.mv (.t 10)),Ma 4 (.mv (.t 68)),Ma 5 (.mv (.c (.int .i64 0))),Ma 6 (.mv (.c (.int .i64 0)))]
@[simp] theorem l75_24:q75_24.length=4:=rfl
instance:KR Try.f75.ntmps q75_24:=⟨[4,5,6],by kernel_rfl⟩
def m75:MCode:=.seq (.reg q75_0) (.seq (.seq (.reg q75_1) (.cond (.t 17) (.seq (.reg q75_2) .ret) .skip)) (.seq (.seq (.reg q75_3) (.block 0 (.loop (.seq (.seq (.reg q75_4) (.cond (.t 21) .skip (.exit 0))) (.seq (.block 1 (.seq (.reg q75_5) (.seq (.seq (.reg q75_6) (.cond (.t 29) (.seq (.reg q75_7) .ret) .skip)) (.seq (.seq (.reg q75_8) (.block 2 (.loop (.seq (.seq (.reg q75_9) (.cond (.t 36) .skip (.exit 2))) (.seq (.block 3 (.reg q75_10)) (.reg q75_11)))))) (.seq (.reg q75_12) (.cond (.t 42) (.seq (.reg q75_13) .ret) .skip)))))) (.reg q75_14)))))) (.seq (.reg q75_15) (.seq (.seq (.reg q75_16) (.block 4 (.loop (.seq (.seq (.reg q75_17) (.cond (.t 48) .skip (.exit 4))) (.seq (.block 5 (.seq (.seq (.reg q75_18) (.block 6 (.loop (.seq (.seq (.reg q75_19) (.cond (.t 56) .skip (.exit 6))) (.seq (.block 7 (.reg q75_20)) (.reg q75_21)))))) (.reg q75_22))) (.reg q75_23)))))) (.seq (.reg q75_24) .ret)))))
theorem rc75:rcOf Try.prog Try.f75=some m75:=by kernel_rfl
theorem rv75:rRVs Try.prog Try.f75.results.toList=some [(.t 4),(.t 5),(.t 6)]:=by kernel_rfl
theorem nm75:(Try.f75.name == "runtime.NumGoroutine")=false:=by kernel_rfl
def q45_0:List MO:=[Ma 1 (.box (.t 0)),Ma 2 (.mv (.c (.int .u64 0))),Ma 3 (.mv (.c (.int .i64 0)))]
@[simp] theorem l45_0:q45_0.length=3:=rfl
instance:KR Try.f45.ntmps q45_0:=⟨[1],by kernel_rfl⟩
def q45_1:List MO:=[Ma 8 (.faddr 0 (.t 1)),Ma 9 (.load false 1 (.t 8)),Ma 10 (.bin .gtr (.t 9) (.c (.int .i64 8)))]
@[simp] theorem l45_1:q45_1.length=3:=rfl
instance:KR Try.f45.ntmps q45_1:=⟨[1,10],by kernel_rfl⟩
def q45_2:List MO:=[Ma 2 (.mv (.c (.int .u64 0))),Ma 3 (.mv (.c (.int .i64 5)))]
@[simp] theorem l45_2:q45_2.length=2:=rfl
instance:KR Try.f45.ntmps q45_2:=⟨[2,3],by kernel_rfl⟩
def q45_3:List MO:=[Ma 4 (.mv (.c (.int .i64 0)))]
@[simp] theorem l45_3:q45_3.length=1:=rfl
instance:KR Try.f45.ntmps q45_3:=⟨[1,4],by kernel_rfl⟩
def q45_4:List MO:=[Ma 11 (.faddr 1 (.t 1)),Ma 12 (.load false 1 (.t 11))]
@[simp] theorem l45_4:q45_4.length=2:=rfl
instance:KR Try.f45.ntmps q45_4:=⟨[1,4,12],by kernel_rfl⟩
def q45_5:List MO:=[Ma 4 (.mv (.c (.int .i64 1)))]
@[simp] theorem l45_5:q45_5.length=1:=rfl
instance:KR Try.f45.ntmps q45_5:=⟨[1,4],by kernel_rfl⟩
def q45_6:List MO:=[Ma 14 (.bsl 1 5 [(.int .i64 0)] [(0,(1,(.c (.int .i64 4)))),(1,(1,(.c (.int .i64 1)))),(2,(1,(.c (.int .i64 8)))),(3,(1,(.c (.int .i64 16)))),(4,(1,(.c (.int .i64 8))))]),Ma 15 (.faddr 0 (.t 1)),Ma 16 (.load false 1 (.t 15)),Ma 17 (.mv (.t 4)),Ma 18 (.faddr 2 (.t 1)),Ma 19 (.load false 1 (.t 18)),Ma 20 (.faddr 3 (.t 1)),Ma 21 (.load false 1 (.t 20)),Ma 22 (.faddr 4 (.t 1)),Ma 23 (.load false 1 (.t 22)),Ma 24 (.bsl 1 5 [(.int .i64 0)] [(0,(1,(.t 16))),(1,(1,(.t 17))),(2,(1,(.t 19))),(3,(1,(.t 21))),(4,(1,(.t 23)))]),Ma 25 (.call (.c (.fn 75 [])) [(.t 14),(.t 24)]),Ma 13 (.mv (.t 25)),Ma 26 (.ext (.t 13) 0),Ma 27 (.ext (.t 13) 1),Ma 28 (.ext (.t 13) 2),Ma 5 (.mv (.t 26)),Ma 6 (.mv (.t 27)),Ma 7 (.mv (.t 28))]
@[simp] theorem l45_6:q45_6.length=19:=rfl
instance:KR Try.f45.ntmps q45_6:=⟨[5,6],by kernel_rfl⟩
def q45_7:List MO:=[Ma 29 (.mv (.t 5)),Ma 30 (.mv (.t 6)),Ma 2 (.mv (.t 29)),Ma 3 (.mv (.t 30))]
@[simp] theorem l45_7:q45_7.length=4:=rfl
instance:KR Try.f45.ntmps q45_7:=⟨[2,3],by kernel_rfl⟩
def m45:MCode:=.seq (.reg q45_0) (.seq (.seq (.reg q45_1) (.cond (.t 10) (.seq (.reg q45_2) .ret) .skip)) (.seq (.reg q45_3) (.seq (.seq (.reg q45_4) (.cond (.t 12) (.reg q45_5) .skip)) (.seq (.reg q45_6) (.seq (.reg q45_7) .ret)))))
theorem rc45:rcOf Try.prog Try.f45=some m45:=by kernel_rfl
theorem rv45:rRVs Try.prog Try.f45.results.toList=some [(.t 2),(.t 3)]:=by kernel_rfl
theorem nm45:(Try.f45.name == "runtime.NumGoroutine")=false:=by kernel_rfl
def q46_0:List MO:=[Ma 1 (.box (.t 0)),Ma 2 (.mv (.c (.int .u64 0))),Ma 3 (.mv (.c (.int .i64 0)))]
@[simp] theorem l46_0:q46_0.length=3:=rfl
instance:KR Try.f46.ntmps q46_0:=⟨[1],by kernel_rfl⟩
def q46_1:List MO:=[Ma 8 (.bsl 1 5 [(.int .i64 0)] [(0,(1,(.c (.int .i64 4)))),(1,(1,(.c (.int .i64 1)))),(2,(1,(.c (.int .i64 16)))),(3,(1,(.c (.int .i64 16)))),(4,(1,(.c (.int .i64 24))))]),Ma 9 (.faddr 0 (.t 1)),Ma 10 (.load false 1 (.t 9)),Ma 11 (.faddr 1 (.t 1)),Ma 12 (.load false 1 (.t 11)),Ma 13 (.faddr 2 (.t 1)),Ma 14 (.load false 1 (.t 13)),Ma 15 (.faddr 3 (.t 1)),Ma 16 (.load false 1 (.t 15)),Ma 17 (.faddr 4 (.t 1)),Ma 18 (.load false 1 (.t 17)),Ma 19 (.bsl 1 5 [(.int .i64 0)] [(0,(1,(.t 10))),(1,(1,(.t 12))),(2,(1,(.t 14))),(3,(1,(.t 16))),(4,(1,(.t 18)))]),Ma 20 (.call (.c (.fn 75 [])) [(.t 8),(.t 19)]),Ma 7 (.mv (.t 20)),Ma 21 (.ext (.t 7) 0),Ma 22 (.ext (.t 7) 1),Ma 23 (.ext (.t 7) 2),Ma 4 (.mv (.t 21)),Ma 5 (.mv (.t 22)),Ma 6 (.mv (.t 23))]
@[simp] theorem l46_1:q46_1.length=20:=rfl
instance:KR Try.f46.ntmps q46_1:=⟨[4,5],by kernel_rfl⟩
def q46_2:List MO:=[Ma 24 (.mv (.t 4)),Ma 25 (.mv (.t 5)),Ma 2 (.mv (.t 24)),Ma 3 (.mv (.t 25))]
@[simp] theorem l46_2:q46_2.length=4:=rfl
instance:KR Try.f46.ntmps q46_2:=⟨[2,3],by kernel_rfl⟩
def m46:MCode:=.seq (.reg q46_0) (.seq (.reg q46_1) (.seq (.reg q46_2) .ret))
theorem rc46:rcOf Try.prog Try.f46=some m46:=by kernel_rfl
theorem rv46:rRVs Try.prog Try.f46.results.toList=some [(.t 2),(.t 3)]:=by kernel_rfl
theorem nm46:(Try.f46.name == "runtime.NumGoroutine")=false:=by kernel_rfl
end Go.W

