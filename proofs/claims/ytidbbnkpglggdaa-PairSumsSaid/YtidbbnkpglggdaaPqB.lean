/- The resolved code of the functions, by a program. -/
import Derived.Test.YtidbbnkpglggdaaPqA
namespace Go.W
open Go.Proofs
set_option maxRecDepth 100000
def q43_0:List MO:=[Ma 1 (.box (.t 0)),Ma 2 (.mv (.c (.raw (.pointer none)))),Ma 3 (.mv (.c (.raw .nilIface)))]
@[simp] theorem l43_0:q43_0.length=3:=rfl
instance:KR Try.f43.ntmps q43_0:=⟨[1],by kernel_rfl⟩
def q43_1:List MO:=[Ma 9 (.faddr 0 (.t 1)),Ma 10 (.load true 7 (.t 9)),Ma 11 (.call (.c (.fn 42 [])) [(.t 10)]),Ma 8 (.mv (.t 11)),Ma 12 (.ext (.t 8) 0),Ma 13 (.ext (.t 8) 1),Ma 4 (.alloc [(.int .i64 0),(.int .i64 0),(.int .i64 0),(.int .i64 0),(.int .i64 0),(.int .i64 0),(.int .i64 0)]),Mb (.store 7 (.t 4) (.t 12)),Ma 5 (.mv (.t 13))]
@[simp] theorem l43_1:q43_1.length=9:=rfl
instance:KR Try.f43.ntmps q43_1:=⟨[1,5],by kernel_rfl⟩
def q43_2:List MO:=[Ma 14 (.mv (.t 5)),Ma 15 (.eq true .iface (.t 14) (.c (.raw .nilIface)))]
@[simp] theorem l43_2:q43_2.length=2:=rfl
instance:KR Try.f43.ntmps q43_2:=⟨[1,5,15],by kernel_rfl⟩
def q43_3:List MO:=[Ma 16 (.mv (.t 5)),Ma 2 (.mv (.c (.raw (.pointer none)))),Ma 3 (.mv (.t 16))]
@[simp] theorem l43_3:q43_3.length=3:=rfl
instance:KR Try.f43.ntmps q43_3:=⟨[2,3],by kernel_rfl⟩
def q43_4:List MO:=[Ma 18 (.load true 7 (.t 1)),Ma 19 (.call (.c (.fn 74 [])) [(.t 18)]),Ma 20 (.call (.c (.fn 73 [])) [(.t 19)]),Ma 17 (.mv (.t 20)),Ma 21 (.ext (.t 17) 0),Ma 22 (.ext (.t 17) 1),Ma 6 (.mv (.t 21)),Ma 7 (.mv (.t 22))]
@[simp] theorem l43_4:q43_4.length=8:=rfl
instance:KR Try.f43.ntmps q43_4:=⟨[1,6,7],by kernel_rfl⟩
def q43_5:List MO:=[Ma 23 (.mv (.t 7)),Ma 24 (.eq true .iface (.t 23) (.c (.raw .nilIface)))]
@[simp] theorem l43_5:q43_5.length=2:=rfl
instance:KR Try.f43.ntmps q43_5:=⟨[1,6,7,24],by kernel_rfl⟩
def q43_6:List MO:=[Ma 25 (.mv (.t 7)),Ma 2 (.mv (.c (.raw (.pointer none)))),Ma 3 (.mv (.t 25))]
@[simp] theorem l43_6:q43_6.length=3:=rfl
instance:KR Try.f43.ntmps q43_6:=⟨[2,3],by kernel_rfl⟩
def q43_7:List MO:=[Ma 26 (.load true 7 (.t 1)),Ma 27 (.mv (.t 6)),Ma 28 (.build [(.int .u64 0)] []),Ma 29 (.box (.t 28)),Ma 30 (.build [(.int .i64 0),(.int .i64 0),(.int .i64 0),(.int .i64 0),(.int .i64 0),(.int .i64 0),(.int .i64 0),(.raw (.pointer none)),(.raw (.pointer none)),.nsl] [(0,(7,(.t 26))),(7,(1,(.t 27))),(8,(1,(.t 29)))]),Ma 31 (.box (.t 30)),Ma 2 (.mv (.t 31)),Ma 3 (.mv (.c (.raw .nilIface)))]
@[simp] theorem l43_7:q43_7.length=8:=rfl
instance:KR Try.f43.ntmps q43_7:=⟨[2,3],by kernel_rfl⟩
def m43:MCode:=.seq (.reg q43_0) (.seq (.seq (.reg q43_1) (.seq (.reg q43_2) (.cond (.t 15) (.seq (.reg q43_3) .ret) .skip))) (.seq (.reg q43_4) (.seq (.seq (.reg q43_5) (.cond (.t 24) (.seq (.reg q43_6) .ret) .skip)) (.seq (.reg q43_7) .ret))))
theorem rc43:rcOf Try.prog Try.f43=some m43:=by kernel_rfl
theorem rv43:rRVs Try.prog Try.f43.results.toList=some [(.t 2),(.t 3)]:=by kernel_rfl
theorem nm43:(Try.f43.name == "runtime.NumGoroutine")=false:=by kernel_rfl
def q44_0:List MO:=[Ma 1 (.box (.t 0)),Ma 2 (.mv (.c (.raw (.pointer none))))]
@[simp] theorem l44_0:q44_0.length=2:=rfl
instance:KR Try.f44.ntmps q44_0:=⟨[1],by kernel_rfl⟩
def q44_1:List MO:=[Ma 6 (.faddr 0 (.t 1)),Ma 7 (.load false 1 (.t 6)),Ma 8 (.faddr 1 (.t 1)),Ma 9 (.load false 1 (.t 8)),Ma 10 (.bin .mul (.t 7) (.t 9)),Ma 3 (.mv (.t 10))]
@[simp] theorem l44_1:q44_1.length=6:=rfl
instance:KR Try.f44.ntmps q44_1:=⟨[1,3],by kernel_rfl⟩
def q44_2:List MO:=[Ma 11 (.load true 7 (.t 1)),Ma 12 (.mv (.t 3)),Ma 13 (.mks 5 40 [(.int .i64 0),(.bool false),(.int .i64 0),(.int .i64 0),(.int .i64 0)] (.t 12) (.t 12)),Ma 14 (.mv (.t 3)),Ma 15 (.mks 5 40 [(.int .i64 0),(.int .i64 0),(.int .i64 0),(.int .i64 0),(.int .i64 0)] (.t 14) (.t 14)),Ma 16 (.build [(.int .i64 0),(.int .i64 0),(.int .i64 0),(.int .i64 0),(.int .i64 0),(.int .i64 0),(.int .i64 0),.nsl,.nsl,.nsl,(.int .i64 0),.nsl,(.int .i64 0)] [(0,(7,(.t 11))),(7,(1,(.t 13))),(8,(1,(.t 15)))]),Ma 17 (.box (.t 16)),Ma 4 (.mv (.t 17))]
@[simp] theorem l44_2:q44_2.length=8:=rfl
def p44_2:List (List Nat):=[[],[],[1,1],[],[3,3],[0,2,4],[5],[6,0,1,2,3,4,5,6]]
instance:KD Try.f44.ntmps q44_2 p44_2:=⟨[[],[],[1],[],[3],[0,1,2,3,4],[0,1,2,3,4,5],[0,1,2,3,4,5,6]],[1,3,4],by kernel_rfl⟩
def q44_3:List MO:=[Ma 5 (.mv (.c (.int .i64 0)))]
@[simp] theorem l44_3:q44_3.length=1:=rfl
instance:KR Try.f44.ntmps q44_3:=⟨[1,3,4,5],by kernel_rfl⟩
def q44_4:List MO:=[Ma 18 (.mv (.t 5)),Ma 19 (.mv (.t 3)),Ma 20 (.bin .lss (.t 18) (.t 19))]
@[simp] theorem l44_4:q44_4.length=3:=rfl
instance:KR Try.f44.ntmps q44_4:=⟨[1,3,4,5,20],by kernel_rfl⟩
def q44_5:List MO:=[Ma 23 (.mv (.t 4)),Ma 24 (.mv (.t 4)),Ma 25 (.nilck (.t 24)),Ma 26 (.faddr 9 (.t 25)),Ma 27 (.load false 1 (.t 26)),Ma 28 (.faddr 6 (.t 1)),Ma 29 (.load false 1 (.t 28)),Ma 30 (.faddr 5 (.t 1)),Ma 31 (.load false 1 (.t 30)),Ma 32 (.bin .add (.t 31) (.c (.int .i64 1))),Ma 33 (.bin .mul (.t 29) (.t 32)),Ma 34 (.mks 6 48 [(.int .i64 0),(.int .i64 0),(.int .i64 0),(.int .i64 0),(.int .i64 0),(.int .i64 0)] (.t 33) (.t 33)),Ma 35 (.bsl 1 1 [.nsl] [(0,(1,(.t 34)))]),Ma 36 (.app 1 24 (.t 27) (.t 35)),Ma 37 (.nilck (.t 23)),Ma 38 (.faddr 9 (.t 37)),Mb (.store 1 (.t 38) (.t 36))]
@[simp] theorem l44_5:q44_5.length=17:=rfl
def p44_5:List (List Nat):=[[],[],[1],[2],[3],[],[5],[],[7],[8],[6,9],[10,10],[11],[4,12],[0,0,1,2,3,4,5,6,7,8,9,10,11,12,13],[14,0,1,2,3,4,5,6,7,8,9,10,11,12,13],[15,13,13,0,1,2,3,4,5,6,7,8,9,10,11,12,13]]
instance:KD Try.f44.ntmps q44_5 p44_5:=⟨[[],[],[1],[1,2],[1,2,3],[],[5],[],[7],[7,8],[5,6,7,8,9],[5,6,7,8,9,10],[5,6,7,8,9,10,11],[1,2,3,4,5,6,7,8,9,10,11,12],[0,1,2,3,4,5,6,7,8,9,10,11,12,13],[0,1,2,3,4,5,6,7,8,9,10,11,12,13,14],[0,1,2,3,4,5,6,7,8,9,10,11,12,13,14,15]],[1,3,4,5],by kernel_rfl⟩
def q44_6:List MO:=[Ma 21 (.mv (.t 5)),Ma 22 (.bin .add (.t 21) (.c (.int .i64 1))),Ma 5 (.mv (.t 22))]
@[simp] theorem l44_6:q44_6.length=3:=rfl
instance:KR Try.f44.ntmps q44_6:=⟨[1,3,4,5],by kernel_rfl⟩
def q44_7:List MO:=[Ma 39 (.mv (.t 4)),Ma 2 (.mv (.t 39))]
@[simp] theorem l44_7:q44_7.length=2:=rfl
instance:KR Try.f44.ntmps q44_7:=⟨[2],by kernel_rfl⟩
def m44:MCode:=.seq (.reg q44_0) (.seq (.reg q44_1) (.seq (.draw q44_2 p44_2) (.seq (.seq (.reg q44_3) (.block 0 (.loop (.seq (.seq (.reg q44_4) (.cond (.t 20) .skip (.exit 0))) (.seq (.block 1 (.draw q44_5 p44_5)) (.reg q44_6)))))) (.seq (.reg q44_7) .ret))))
theorem rc44:rcOf Try.prog Try.f44=some m44:=by kernel_rfl
theorem rv44:rRVs Try.prog Try.f44.results.toList=some [(.t 2)]:=by kernel_rfl
theorem nm44:(Try.f44.name == "runtime.NumGoroutine")=false:=by kernel_rfl
def q14_0:List MO:=[Ma 4 (.mv (.c (.int .u64 0))),Ma 5 (.alloc [(.int .i64 0),(.bool false),(.int .i64 0),(.int .i64 0),(.int .i64 0)])]
@[simp] theorem l14_0:q14_0.length=2:=rfl
instance:KR Try.f14.ntmps q14_0:=⟨[0,1,5],by kernel_rfl⟩
def q14_1:List MO:=[Ma 9 (.mv (.t 0)),Ma 10 (.nilck (.t 9)),Ma 11 (.faddr 7 (.t 10)),Ma 12 (.load false 1 (.t 11)),Ma 13 (.mv (.t 0)),Ma 14 (.nilck (.t 13)),Ma 15 (.faddr 0 (.t 14)),Ma 16 (.load true 7 (.t 15)),Ma 17 (.mv (.t 1)),Ma 18 (.call (.c (.fn 50 [])) [(.t 16),(.t 17)]),Ma 19 (.call (.c (.fn 19 [])) [(.t 12),(.t 18)]),Ma 8 (.mv (.t 19)),Ma 20 (.ext (.t 8) 0),Ma 21 (.ext (.t 8) 1),Ma 6 (.mv (.t 20)),Ma 7 (.mv (.t 21))]
@[simp] theorem l14_1:q14_1.length=16:=rfl
def p14_1:List (List Nat):=[[],[0],[1],[2],[],[4],[5],[6],[],[7,8],[3,9,9],[10],[11],[11],[12,10,0,1,2,3,4,5,6,7,8,9,10,11,12],[13,14,0,1,2,3,4,5,6,7,8,9,10,11,12,13,14]]
instance:KD Try.f14.ntmps q14_1 p14_1:=⟨[[],[0],[0,1],[0,1,2],[],[4],[4,5],[4,5,6],[],[4,5,6,7,8],[0,1,2,3,4,5,6,7,8,9],[0,1,2,3,4,5,6,7,8,9,10],[0,1,2,3,4,5,6,7,8,9,10,11],[0,1,2,3,4,5,6,7,8,9,10,11],[0,1,2,3,4,5,6,7,8,9,10,11,12],[0,1,2,3,4,5,6,7,8,9,10,11,12,13,14]],[5,6],by kernel_rfl⟩
def q14_2:List MO:=[Ma 22 (.mv (.t 6)),Ma 23 (.mv (.t 6)),Ma 24 (.call (.c (.fn 55 [])) [(.t 23)]),Ma 4 (.mv (.t 22)),Mb (.store 5 (.t 5) (.t 24))]
@[simp] theorem l14_2:q14_2.length=5:=rfl
instance:KR Try.f14.ntmps q14_2:=⟨[4,5],by kernel_rfl⟩
def m14:MCode:=.seq (.reg q14_0) (.seq (.draw q14_1 p14_1) (.seq (.reg q14_2) .ret))
theorem rc14:rcOf Try.prog Try.f14=some m14:=by kernel_rfl
theorem rv14:rRVs Try.prog Try.f14.results.toList=some [(.t 4),(.c true 5 5)]:=by kernel_rfl
theorem nm14:(Try.f14.name == "runtime.NumGoroutine")=false:=by kernel_rfl
def q65_0:List MO:=[Ma 4 (.alloc [(.int .i64 0),(.int .i64 0),(.int .i64 0),(.int .i64 0),(.int .i64 0)])]
@[simp] theorem l65_0:q65_0.length=1:=rfl
instance:KR Try.f65.ntmps q65_0:=⟨[0,1,4],by kernel_rfl⟩
def q65_1:List MO:=[Ma 8 (.mv (.t 0)),Ma 9 (.nilck (.t 8)),Ma 10 (.faddr 7 (.t 9)),Ma 11 (.load false 1 (.t 10)),Ma 12 (.mv (.t 0)),Ma 13 (.nilck (.t 12)),Ma 14 (.faddr 0 (.t 13)),Ma 15 (.load true 7 (.t 14)),Ma 16 (.mv (.t 1)),Ma 17 (.call (.c (.fn 51 [])) [(.t 15),(.t 16)]),Ma 18 (.call (.c (.fn 19 [])) [(.t 11),(.t 17)]),Ma 7 (.mv (.t 18)),Ma 19 (.ext (.t 7) 0),Ma 20 (.ext (.t 7) 1),Ma 5 (.mv (.t 19)),Ma 6 (.mv (.t 20))]
@[simp] theorem l65_1:q65_1.length=16:=rfl
def p65_1:List (List Nat):=[[],[0],[1],[2],[],[4],[5],[6],[],[7,8],[3,9,9],[10],[11],[11],[12,10,0,1,2,3,4,5,6,7,8,9,10,11,12],[13,14,0,1,2,3,4,5,6,7,8,9,10,11,12,13,14]]
instance:KD Try.f65.ntmps q65_1 p65_1:=⟨[[],[0],[0,1],[0,1,2],[],[4],[4,5],[4,5,6],[],[4,5,6,7,8],[0,1,2,3,4,5,6,7,8,9],[0,1,2,3,4,5,6,7,8,9,10],[0,1,2,3,4,5,6,7,8,9,10,11],[0,1,2,3,4,5,6,7,8,9,10,11],[0,1,2,3,4,5,6,7,8,9,10,11,12],[0,1,2,3,4,5,6,7,8,9,10,11,12,13,14]],[4,5],by kernel_rfl⟩
def q65_2:List MO:=[Ma 21 (.mv (.t 5)),Ma 22 (.call (.c (.fn 87 [])) [(.t 21)]),Mb (.store 5 (.t 4) (.t 22))]
@[simp] theorem l65_2:q65_2.length=3:=rfl
instance:KR Try.f65.ntmps q65_2:=⟨[4],by kernel_rfl⟩
def m65:MCode:=.seq (.reg q65_0) (.seq (.draw q65_1 p65_1) (.seq (.reg q65_2) .ret))
theorem rc65:rcOf Try.prog Try.f65=some m65:=by kernel_rfl
theorem rv65:rRVs Try.prog Try.f65.results.toList=some [(.c true 5 4)]:=by kernel_rfl
theorem nm65:(Try.f65.name == "runtime.NumGoroutine")=false:=by kernel_rfl
def q26_0:List MO:=[Ma 7 (.box (.t 3)),Ma 8 (.mv (.c (.bool false)))]
@[simp] theorem l26_0:q26_0.length=2:=rfl
instance:KR Try.f26.ntmps q26_0:=⟨[0,1,2,7],by kernel_rfl⟩
def q26_1:List MO:=[Ma 14 (.load true 5 (.t 7)),Ma 15 (.call (.c (.fn 62 [])) [(.t 14)]),Ma 13 (.mv (.t 15)),Ma 16 (.ext (.t 13) 0),Ma 17 (.ext (.t 13) 1),Ma 9 (.mv (.t 16)),Ma 10 (.mv (.t 17))]
@[simp] theorem l26_1:q26_1.length=7:=rfl
instance:KR Try.f26.ntmps q26_1:=⟨[0,1,2,9,10],by kernel_rfl⟩
def q26_2:List MO:=[Ma 18 (.mv (.t 10)),Ma 19 (.eq true .iface (.t 18) (.c (.raw .nilIface)))]
@[simp] theorem l26_2:q26_2.length=2:=rfl
instance:KR Try.f26.ntmps q26_2:=⟨[0,1,2,9,19],by kernel_rfl⟩
def q26_3:List MO:=[Ma 8 (.mv (.c (.bool false)))]
@[simp] theorem l26_3:q26_3.length=1:=rfl
instance:KR Try.f26.ntmps q26_3:=⟨[8],by kernel_rfl⟩
def q26_4:List MO:=[Ma 21 (.mv (.t 0)),Ma 22 (.nilck (.t 21)),Ma 23 (.faddr 7 (.t 22)),Ma 24 (.load false 1 (.t 23)),Ma 25 (.mv (.t 0)),Ma 26 (.nilck (.t 25)),Ma 27 (.faddr 0 (.t 26)),Ma 28 (.load true 7 (.t 27)),Ma 29 (.mv (.t 1)),Ma 30 (.call (.c (.fn 50 [])) [(.t 28),(.t 29)]),Ma 31 (.mv (.t 2)),Ma 32 (.mv (.t 9)),Ma 33 (.call (.c (.fn 63 [])) [(.t 24),(.t 30),(.t 31),(.t 32)]),Ma 20 (.mv (.t 33)),Ma 34 (.ext (.t 20) 0),Ma 35 (.ext (.t 20) 1),Ma 11 (.mv (.t 34)),Ma 12 (.mv (.t 35))]
@[simp] theorem l26_4:q26_4.length=18:=rfl
def p26_4:List (List Nat):=[[],[0],[1],[2],[],[4],[5],[6],[],[7,8],[],[],[3,9,10,11,9],[12],[13],[13],[14,12,0,1,2,3,4,5,6,7,8,9,10,11,12,13,14],[15,16,0,1,2,3,4,5,6,7,8,9,10,11,12,13,14,15,16]]
instance:KD Try.f26.ntmps q26_4 p26_4:=⟨[[],[0],[0,1],[0,1,2],[],[4],[4,5],[4,5,6],[],[4,5,6,7,8],[],[],[0,1,2,3,4,5,6,7,8,9,10,11],[0,1,2,3,4,5,6,7,8,9,10,11,12],[0,1,2,3,4,5,6,7,8,9,10,11,12,13],[0,1,2,3,4,5,6,7,8,9,10,11,12,13],[0,1,2,3,4,5,6,7,8,9,10,11,12,13,14],[0,1,2,3,4,5,6,7,8,9,10,11,12,13,14,15,16]],[11],by kernel_rfl⟩
def q26_5:List MO:=[Ma 36 (.mv (.t 11)),Ma 8 (.mv (.t 36))]
@[simp] theorem l26_5:q26_5.length=2:=rfl
instance:KR Try.f26.ntmps q26_5:=⟨[8],by kernel_rfl⟩
def m26:MCode:=.seq (.reg q26_0) (.seq (.reg q26_1) (.seq (.seq (.reg q26_2) (.cond (.t 19) (.seq (.reg q26_3) .ret) .skip)) (.seq (.draw q26_4 p26_4) (.seq (.reg q26_5) .ret))))
theorem rc26:rcOf Try.prog Try.f26=some m26:=by kernel_rfl
theorem rv26:rRVs Try.prog Try.f26.results.toList=some [(.t 8)]:=by kernel_rfl
theorem nm26:(Try.f26.name == "runtime.NumGoroutine")=false:=by kernel_rfl
def q68_0:List MO:=[Ma 9 (.box (.t 4))]
@[simp] theorem l68_0:q68_0.length=1:=rfl
instance:KR Try.f68.ntmps q68_0:=⟨[0,1,2,3,9],by kernel_rfl⟩
def q68_1:List MO:=[Ma 13 (.load true 6 (.t 9)),Ma 14 (.call (.c (.fn 91 [])) [(.t 13)]),Ma 12 (.mv (.t 14)),Ma 15 (.ext (.t 12) 0),Ma 16 (.ext (.t 12) 1),Ma 10 (.mv (.t 15)),Ma 11 (.mv (.t 16))]
@[simp] theorem l68_1:q68_1.length=7:=rfl
instance:KR Try.f68.ntmps q68_1:=⟨[0,1,2,3,10,11],by kernel_rfl⟩
def q68_2:List MO:=[Ma 17 (.mv (.t 11)),Ma 18 (.eq false .iface (.t 17) (.c (.raw .nilIface)))]
@[simp] theorem l68_2:q68_2.length=2:=rfl
instance:KR Try.f68.ntmps q68_2:=⟨[0,1,2,3,10,18],by kernel_rfl⟩
def q68_3:List MO:=[Ma 19 (.mv (.t 0)),Ma 20 (.nilck (.t 19)),Ma 21 (.faddr 7 (.t 20)),Ma 22 (.load false 1 (.t 21)),Ma 23 (.mv (.t 0)),Ma 24 (.nilck (.t 23)),Ma 25 (.faddr 0 (.t 24)),Ma 26 (.load true 7 (.t 25)),Ma 27 (.mv (.t 1)),Ma 28 (.mv (.t 2)),Ma 29 (.mv (.t 3)),Ma 30 (.call (.c (.fn 20 [])) [(.t 26),(.t 27),(.t 28),(.t 29)]),Ma 31 (.mv (.t 10)),Ma 32 (.call (.c (.fn 49 [])) [(.t 22),(.t 30),(.t 31)])]
@[simp] theorem l68_3:q68_3.length=14:=rfl
def p68_3:List (List Nat):=[[],[0],[1],[2],[],[4],[5],[6],[],[],[],[7,8,9,10],[],[3,11,12,11]]
instance:KD Try.f68.ntmps q68_3 p68_3:=⟨[[],[0],[0,1],[0,1,2],[],[4],[4,5],[4,5,6],[],[],[],[4,5,6,7,8,9,10],[],[0,1,2,3,4,5,6,7,8,9,10,11,12]],[],by kernel_rfl⟩
def m68:MCode:=.seq (.reg q68_0) (.seq (.reg q68_1) (.seq (.reg q68_2) (.cond (.t 18) (.draw q68_3 p68_3) .skip)))
theorem rc68:rcOf Try.prog Try.f68=some m68:=by kernel_rfl
theorem rv68:rRVs Try.prog Try.f68.results.toList=some []:=by kernel_rfl
theorem nm68:(Try.f68.name == "runtime.NumGoroutine")=false:=by kernel_rfl
def q23_0:List MO:=[Ma 3 (.box (.t 1))]
@[simp] theorem l23_0:q23_0.length=1:=rfl
instance:KR Try.f23.ntmps q23_0:=⟨[0,3],by kernel_rfl⟩
def q23_1:List MO:=[Ma 4 (.mv (.t 0)),Ma 5 (.nilck (.t 4)),Ma 6 (.faddr 8 (.t 5)),Ma 7 (.load false 1 (.t 6)),Ma 8 (.call (.c (.fn 24 [])) [(.t 7)]),Ma 9 (.faddr 12 (.t 3)),Mb (.store 1 (.t 9) (.t 8))]
@[simp] theorem l23_1:q23_1.length=7:=rfl
instance:KR Try.f23.ntmps q23_1:=⟨[0,3],by kernel_rfl⟩
def q23_2:List MO:=[Ma 10 (.mv (.t 0)),Ma 11 (.mv (.t 0)),Ma 12 (.nilck (.t 11)),Ma 13 (.faddr 9 (.t 12)),Ma 14 (.load false 1 (.t 13)),Ma 15 (.load true 14 (.t 3)),Ma 16 (.bsl 14 1 [(.int .i64 0),(.int .i64 0),(.int .i64 0),(.int .i64 0),(.int .i64 0),(.int .i64 0),(.int .i64 0),(.int .i64 0),(.int .i64 0),(.int .i64 0),(.int .i64 0),(.int .i64 0),(.int .i64 0),(.int .i64 0)] [(0,(14,(.t 15)))]),Ma 17 (.app 14 112 (.t 14) (.t 16)),Ma 18 (.nilck (.t 10)),Ma 19 (.faddr 9 (.t 18)),Mb (.store 1 (.t 19) (.t 17))]
@[simp] theorem l23_2:q23_2.length=11:=rfl
def p23_2:List (List Nat):=[[],[],[1],[2],[3],[],[5],[4,6],[0,0,1,2,3,4,5,6,7],[8,0,1,2,3,4,5,6,7],[9,7,7,0,1,2,3,4,5,6,7]]
instance:KD Try.f23.ntmps q23_2 p23_2:=⟨[[],[],[1],[1,2],[1,2,3],[],[5],[1,2,3,4,5,6],[0,1,2,3,4,5,6,7],[0,1,2,3,4,5,6,7,8],[0,1,2,3,4,5,6,7,8,9]],[],by kernel_rfl⟩
def m23:MCode:=.seq (.reg q23_0) (.seq (.reg q23_1) (.draw q23_2 p23_2))
theorem rc23:rcOf Try.prog Try.f23=some m23:=by kernel_rfl
theorem rv23:rRVs Try.prog Try.f23.results.toList=some []:=by kernel_rfl
theorem nm23:(Try.f23.name == "runtime.NumGoroutine")=false:=by kernel_rfl
def q11_0:List MO:=[Ma 1 (.box (.t 0)),Ma 2 (.mv (.c (.raw (.pointer none))))]
@[simp] theorem l11_0:q11_0.length=2:=rfl
instance:KR Try.f11.ntmps q11_0:=⟨[1],by kernel_rfl⟩
def q11_1:List MO:=[Ma 3 (.load true 5 (.t 1)),Ma 4 (.build [(.int .i64 0),(.int .i64 0),(.int .i64 0),(.int .i64 0),(.int .i64 0),(.int .i64 0),(.int .u64 0),(.int .u64 0),(.int .i64 0),(.int .i64 0),(.int .i64 0),(.int .i64 0),(.int .i64 0),(.int .i64 0),(.int .i64 0),(.int .i64 0),(.int .i64 0),(.int .i64 0),(.bool false),(.bool false),(.bool false),(.int .i64 0),(.int .i64 0),(.int .i64 0),(.int .i64 0),(.int .i64 0),(.bool false),(.int .i64 0),(.int .i64 0),(.int .i64 0),(.int .i64 0),(.bool false),(.int .i64 0),(.int .i64 0),(.int .i64 0)] [(0,(5,(.t 3)))]),Ma 5 (.box (.t 4)),Ma 2 (.mv (.t 5))]
@[simp] theorem l11_1:q11_1.length=4:=rfl
instance:KR Try.f11.ntmps q11_1:=⟨[2],by kernel_rfl⟩
def m11:MCode:=.seq (.reg q11_0) (.seq (.reg q11_1) .ret)
theorem rc11:rcOf Try.prog Try.f11=some m11:=by kernel_rfl
theorem rv11:rRVs Try.prog Try.f11.results.toList=some [(.t 2)]:=by kernel_rfl
theorem nm11:(Try.f11.name == "runtime.NumGoroutine")=false:=by kernel_rfl
def q13_0:List MO:=[Ma 2 (.mv (.c (.bool false)))]
@[simp] theorem l13_0:q13_0.length=1:=rfl
instance:KR Try.f13.ntmps q13_0:=⟨[0],by kernel_rfl⟩
def q13_1:List MO:=[Ma 3 (.mv (.t 0)),Ma 4 (.eq false .ptr (.t 3) (.c (.raw (.pointer none)))),Ma 5 (.mv (.t 4)),Mg 6 (.mv (.t 0)) 5 false,Mg 7 (.nilck (.t 6)) 5 false,Mg 8 (.faddr 5 (.t 7)) 5 false,Mg 9 (.load false 1 (.t 8)) 5 false,Mg 10 (.bin .geq (.t 9) (.c (.int .i64 14))) 5 false,Ma 11 (.pick (.t 5) (.c (.bool true)) (.t 10)),Ma 2 (.mv (.t 11))]
@[simp] theorem l13_1:q13_1.length=10:=rfl
instance:KR Try.f13.ntmps q13_1:=⟨[2],by kernel_rfl⟩
def m13:MCode:=.seq (.reg q13_0) (.seq (.reg q13_1) .ret)
theorem rc13:rcOf Try.prog Try.f13=some m13:=by kernel_rfl
theorem rv13:rRVs Try.prog Try.f13.results.toList=some [(.t 2)]:=by kernel_rfl
theorem nm13:(Try.f13.name == "runtime.NumGoroutine")=false:=by kernel_rfl
def q15_0:List MO:=[Ma 2 (.mv (.c (.bool false)))]
@[simp] theorem l15_0:q15_0.length=1:=rfl
instance:KR Try.f15.ntmps q15_0:=⟨[0],by kernel_rfl⟩
def q15_1:List MO:=[Ma 3 (.mv (.t 0)),Ma 4 (.eq true .ptr (.t 3) (.c (.raw (.pointer none)))),Ma 5 (.mv (.t 4)),Mg 6 (.mv (.t 0)) 5 true,Mg 7 (.nilck (.t 6)) 5 true,Mg 8 (.faddr 19 (.t 7)) 5 true,Mg 9 (.load false 1 (.t 8)) 5 true,Ma 10 (.pick (.t 5) (.t 9) (.c (.bool false))),Ma 2 (.mv (.t 10))]
@[simp] theorem l15_1:q15_1.length=9:=rfl
instance:KR Try.f15.ntmps q15_1:=⟨[2],by kernel_rfl⟩
def m15:MCode:=.seq (.reg q15_0) (.seq (.reg q15_1) .ret)
theorem rc15:rcOf Try.prog Try.f15=some m15:=by kernel_rfl
theorem rv15:rRVs Try.prog Try.f15.results.toList=some [(.t 2)]:=by kernel_rfl
theorem nm15:(Try.f15.name == "runtime.NumGoroutine")=false:=by kernel_rfl
def q53_0:List MO:=[Ma 4 (.mv (.c (.bool false)))]
@[simp] theorem l53_0:q53_0.length=1:=rfl
instance:KR Try.f53.ntmps q53_0:=⟨[0,1],by kernel_rfl⟩
def q53_1:List MO:=[Ma 7 (.mv (.t 1)),Ma 8 (.nilck (.t 7)),Ma 9 (.faddr 0 (.t 8)),Ma 10 (.load true 7 (.t 9)),Ma 11 (.mv (.t 0)),Ma 12 (.nilck (.t 11)),Ma 13 (.faddr 0 (.t 12)),Ma 14 (.faddr 1 (.t 13)),Ma 15 (.load false 1 (.t 14)),Ma 16 (.call (.c (.fn 76 [])) [(.t 10),(.t 15)]),Ma 17 (.mv (.t 1)),Ma 18 (.nilck (.t 17)),Ma 19 (.faddr 0 (.t 18)),Ma 20 (.load true 7 (.t 19)),Ma 21 (.mv (.t 0)),Ma 22 (.nilck (.t 21)),Ma 23 (.faddr 0 (.t 22)),Ma 24 (.faddr 3 (.t 23)),Ma 25 (.load false 1 (.t 24)),Ma 26 (.call (.c (.fn 76 [])) [(.t 20),(.t 25)]),Ma 5 (.mv (.t 16)),Ma 6 (.mv (.t 26))]
@[simp] theorem l53_1:q53_1.length=22:=rfl
def p53_1:List (List Nat):=[[],[0],[1],[2],[],[4],[5],[6],[7],[3,8],[],[10],[11],[12],[],[14],[15],[16],[17],[13,18,9],[9,19,0,1,2,3,4,5,6,7,8,9],[19,20,0,1,2,3,4,5,6,7,8,9,10,11,12,13,14,15,16,17,18,19,20]]
instance:KD Try.f53.ntmps q53_1 p53_1:=⟨[[],[0],[0,1],[0,1,2],[],[4],[4,5],[4,5,6],[4,5,6,7],[0,1,2,3,4,5,6,7,8],[],[10],[10,11],[10,11,12],[],[14],[14,15],[14,15,16],[14,15,16,17],[0,1,2,3,4,5,6,7,8,9,10,11,12,13,14,15,16,17,18],[0,1,2,3,4,5,6,7,8,9,10,11,12,13,14,15,16,17,18,19],[0,1,2,3,4,5,6,7,8,9,10,11,12,13,14,15,16,17,18,19,20]],[5,6],by kernel_rfl⟩
def q53_2:List MO:=[Ma 27 (.mv (.t 5)),Ma 28 (.bin .lss (.t 27) (.c (.int .i64 0))),Ma 29 (.mv (.t 28)),Mg 30 (.mv (.t 6)) 29 false,Mg 31 (.bin .lss (.t 30) (.c (.int .i64 0))) 29 false,Ma 32 (.pick (.t 29) (.c (.bool true)) (.t 31)),Ma 33 (.mv (.t 32)),Mg 34 (.mv (.t 5)) 33 false,Mg 35 (.mv (.t 6)) 33 false,Mg 36 (.bin .eql (.t 34) (.t 35)) 33 false,Ma 37 (.pick (.t 33) (.c (.bool true)) (.t 36)),Ma 4 (.mv (.t 37))]
@[simp] theorem l53_2:q53_2.length=12:=rfl
instance:KR Try.f53.ntmps q53_2:=⟨[4],by kernel_rfl⟩
def m53:MCode:=.seq (.reg q53_0) (.seq (.draw q53_1 p53_1) (.seq (.reg q53_2) .ret))
theorem rc53:rcOf Try.prog Try.f53=some m53:=by kernel_rfl
theorem rv53:rRVs Try.prog Try.f53.results.toList=some [(.t 4)]:=by kernel_rfl
theorem nm53:(Try.f53.name == "runtime.NumGoroutine")=false:=by kernel_rfl
def q92_0:List MO:=[Ma 5 (.box (.t 2)),Ma 6 (.mv (.c (.bool false)))]
@[simp] theorem l92_0:q92_0.length=2:=rfl
instance:KR Try.f92.ntmps q92_0:=⟨[0,1,5],by kernel_rfl⟩
def q92_1:List MO:=[Ma 7 (.mv (.t 0)),Ma 8 (.nilck (.t 7)),Ma 9 (.faddr 0 (.t 8)),Ma 10 (.faddr 0 (.t 9)),Ma 11 (.load false 1 (.t 10))]
@[simp] theorem l92_1:q92_1.length=5:=rfl
instance:KR Try.f92.ntmps q92_1:=⟨[0,1,5,11],by kernel_rfl⟩
def q92_2:List MO:=[Ma 13 (.bin .eql (.t 11) (.c (.int .i64 1))),Ma 12 (.mv (.t 13))]
@[simp] theorem l92_2:q92_2.length=2:=rfl
instance:KR Try.f92.ntmps q92_2:=⟨[0,1,5,11,12],by kernel_rfl⟩
def q92_3:List MO:=[Ma 15 (.bin .eql (.t 11) (.c (.int .i64 2))),Ma 14 (.mv (.t 15))]
@[simp] theorem l92_3:q92_3.length=2:=rfl
instance:KR Try.f92.ntmps q92_3:=⟨[0,1,5,11,14],by kernel_rfl⟩
def q92_4:List MO:=[Ma 17 (.bin .eql (.t 11) (.c (.int .i64 3))),Ma 16 (.mv (.t 17))]
@[simp] theorem l92_4:q92_4.length=2:=rfl
instance:KR Try.f92.ntmps q92_4:=⟨[0,1,5,16],by kernel_rfl⟩
def q92_5:List MO:=[Ma 18 (.faddr 0 (.t 5)),Ma 19 (.load false 1 (.t 18)),Ma 20 (.bin .eql (.t 19) (.c (.int .i64 1))),Ma 21 (.mv (.t 20)),Mg 22 (.faddr 2 (.t 5)) 21 true,Mg 23 (.load false 1 (.t 22)) 21 true,Mg 24 (.mv (.t 0)) 21 true,Mg 25 (.nilck (.t 24)) 21 true,Mg 26 (.faddr 0 (.t 25)) 21 true,Mg 27 (.faddr 2 (.t 26)) 21 true,Mg 28 (.load false 1 (.t 27)) 21 true,Mg 29 (.bin .eql (.t 23) (.t 28)) 21 true,Ma 30 (.pick (.t 21) (.t 29) (.c (.bool false))),Ma 6 (.mv (.t 30))]
@[simp] theorem l92_5:q92_5.length=14:=rfl
def p92_5:List (List Nat):=[[],[0],[1],[2],[3],[4,3],[3],[6,3],[7,3],[8,3],[9,3],[5,10,3],[3,11],[12,3,0,1,2,3,4,5,6,7,8,9,10,11,12]]
instance:KD Try.f92.ntmps q92_5 p92_5:=⟨[[],[0],[0,1],[0,1,2],[0,1,2,3],[0,1,2,3,4],[0,1,2,3],[0,1,2,3,6],[0,1,2,3,6,7],[0,1,2,3,6,7,8],[0,1,2,3,6,7,8,9],[0,1,2,3,4,5,6,7,8,9,10],[0,1,2,3,4,5,6,7,8,9,10,11],[0,1,2,3,4,5,6,7,8,9,10,11,12]],[6],by kernel_rfl⟩
def q92_6:List MO:=[Ma 31 (.faddr 0 (.t 5)),Ma 32 (.load false 1 (.t 31)),Ma 33 (.bin .eql (.t 32) (.c (.int .i64 2))),Ma 34 (.mv (.t 33)),Mg 35 (.mv (.t 0)) 34 true,Mg 36 (.nilck (.t 35)) 34 true,Mg 37 (.faddr 8 (.t 36)) 34 true,Mg 38 (.faddr 1 (.t 37)) 34 true,Mg 39 (.load false 1 (.t 38)) 34 true,Mg 40 (.bin .eql (.t 39) (.c (.int .i64 0))) 34 true,Ma 41 (.pick (.t 34) (.t 40) (.c (.bool false))),Ma 42 (.mv (.t 41)),Mg 43 (.mv (.t 1)) 42 true,Mg 44 (.nilck (.t 43)) 42 true,Mg 45 (.faddr 0 (.t 44)) 42 true,Mg 46 (.load true 7 (.t 45)) 42 true,Mg 47 (.mv (.t 0)) 42 true,Mg 48 (.nilck (.t 47)) 42 true,Mg 49 (.faddr 8 (.t 48)) 42 true,Mg 50 (.load true 5 (.t 49)) 42 true,Mg 51 (.call (.c (.fn 89 [])) [(.t 46),(.t 50)]) 42 true,Mg 52 (.mv (.t 0)) 42 true,Mg 53 (.nilck (.t 52)) 42 true,Mg 54 (.faddr 0 (.t 53)) 42 true,Mg 55 (.faddr 4 (.t 54)) 42 true,Mg 56 (.load false 1 (.t 55)) 42 true,Mg 57 (.bin .eql (.t 51) (.t 56)) 42 true,Ma 58 (.pick (.t 42) (.t 57) (.c (.bool false))),Ma 6 (.mv (.t 58))]
@[simp] theorem l92_6:q92_6.length=29:=rfl
def p92_6:List (List Nat):=[[],[0],[1],[2],[3],[4,3],[5,3],[6,3],[7,3],[8,3],[3,9],[10,3],[11],[12,11],[13,11],[14,11],[11],[16,11],[17,11],[18,11],[15,19,11,11],[11],[21,11],[22,11],[23,11],[24,11],[20,25,11],[11,26],[27,20,0,1,2,3,4,5,6,7,8,9,10,11,12,13,14,15,16,17,18,19,20,21,22,23,24,25,26,27]]
instance:KD Try.f92.ntmps q92_6 p92_6:=⟨[[],[0],[0,1],[0,1,2],[0,1,2,3],[0,1,2,3,4],[0,1,2,3,4,5],[0,1,2,3,4,5,6],[0,1,2,3,4,5,6,7],[0,1,2,3,4,5,6,7,8],[0,1,2,3,4,5,6,7,8,9],[0,1,2,3,4,5,6,7,8,9,10],[0,1,2,3,4,5,6,7,8,9,10,11],[0,1,2,3,4,5,6,7,8,9,10,11,12],[0,1,2,3,4,5,6,7,8,9,10,11,12,13],[0,1,2,3,4,5,6,7,8,9,10,11,12,13,14],[0,1,2,3,4,5,6,7,8,9,10,11],[0,1,2,3,4,5,6,7,8,9,10,11,16],[0,1,2,3,4,5,6,7,8,9,10,11,16,17],[0,1,2,3,4,5,6,7,8,9,10,11,16,17,18],[0,1,2,3,4,5,6,7,8,9,10,11,12,13,14,15,16,17,18,19],[0,1,2,3,4,5,6,7,8,9,10,11],[0,1,2,3,4,5,6,7,8,9,10,11,21],[0,1,2,3,4,5,6,7,8,9,10,11,21,22],[0,1,2,3,4,5,6,7,8,9,10,11,21,22,23],[0,1,2,3,4,5,6,7,8,9,10,11,21,22,23,24],[0,1,2,3,4,5,6,7,8,9,10,11,12,13,14,15,16,17,18,19,20,21,22,23,24,25],[0,1,2,3,4,5,6,7,8,9,10,11,12,13,14,15,16,17,18,19,20,21,22,23,24,25,26],[0,1,2,3,4,5,6,7,8,9,10,11,12,13,14,15,16,17,18,19,20,21,22,23,24,25,26,27]],[6],by kernel_rfl⟩
def q92_7:List MO:=[Ma 6 (.mv (.c (.bool false)))]
@[simp] theorem l92_7:q92_7.length=1:=rfl
instance:KR Try.f92.ntmps q92_7:=⟨[6],by kernel_rfl⟩
def m92:MCode:=.seq (.reg q92_0) (.seq (.seq (.reg q92_1) (.block 0 (.seq (.block 3 (.seq (.block 2 (.block 1 (.seq (.seq (.seq (.reg q92_2) (.cond (.t 12) (.exit 1) .skip)) (.seq (.seq (.reg q92_3) (.cond (.t 14) (.exit 2) .skip)) (.seq (.reg q92_4) (.cond (.t 16) (.exit 3) .skip)))) (.exit 0)))) (.seq (.seq (.draw q92_5 p92_5) .ret) (.exit 0)))) (.seq (.seq (.draw q92_6 p92_6) .ret) (.exit 0))))) (.seq (.reg q92_7) .ret))
theorem rc92:rcOf Try.prog Try.f92=some m92:=by kernel_rfl
theorem rv92:rRVs Try.prog Try.f92.results.toList=some [(.t 6)]:=by kernel_rfl
theorem nm92:(Try.f92.name == "runtime.NumGoroutine")=false:=by kernel_rfl
def q94_0:List MO:=[Ma 5 (.box (.t 2)),Ma 6 (.mv (.c (.bool false)))]
@[simp] theorem l94_0:q94_0.length=2:=rfl
instance:KR Try.f94.ntmps q94_0:=⟨[0,1,5],by kernel_rfl⟩
def q94_1:List MO:=[Ma 7 (.mv (.t 0)),Ma 8 (.nilck (.t 7)),Ma 9 (.faddr 0 (.t 8)),Ma 10 (.faddr 0 (.t 9)),Ma 11 (.load false 1 (.t 10))]
@[simp] theorem l94_1:q94_1.length=5:=rfl
instance:KR Try.f94.ntmps q94_1:=⟨[0,1,5,11],by kernel_rfl⟩
def q94_2:List MO:=[Ma 13 (.bin .eql (.t 11) (.c (.int .i64 1))),Ma 12 (.mv (.t 13))]
@[simp] theorem l94_2:q94_2.length=2:=rfl
instance:KR Try.f94.ntmps q94_2:=⟨[0,1,5,11,12],by kernel_rfl⟩
def q94_3:List MO:=[Ma 15 (.bin .eql (.t 11) (.c (.int .i64 2))),Ma 14 (.mv (.t 15))]
@[simp] theorem l94_3:q94_3.length=2:=rfl
instance:KR Try.f94.ntmps q94_3:=⟨[0,1,5,11,14],by kernel_rfl⟩
def q94_4:List MO:=[Ma 17 (.bin .eql (.t 11) (.c (.int .i64 3))),Ma 16 (.mv (.t 17))]
@[simp] theorem l94_4:q94_4.length=2:=rfl
instance:KR Try.f94.ntmps q94_4:=⟨[5,16],by kernel_rfl⟩
def q94_5:List MO:=[Ma 18 (.faddr 0 (.t 5)),Ma 19 (.load false 1 (.t 18)),Ma 20 (.bin .eql (.t 19) (.c (.int .i64 1))),Ma 6 (.mv (.t 20))]
@[simp] theorem l94_5:q94_5.length=4:=rfl
instance:KR Try.f94.ntmps q94_5:=⟨[6],by kernel_rfl⟩
def q94_6:List MO:=[Ma 21 (.mv (.t 1)),Ma 22 (.nilck (.t 21)),Ma 23 (.faddr 0 (.t 22)),Ma 24 (.load true 7 (.t 23)),Ma 25 (.mv (.t 0)),Ma 26 (.nilck (.t 25)),Ma 27 (.faddr 13 (.t 26)),Ma 28 (.load true 5 (.t 27)),Ma 29 (.call (.c (.fn 89 [])) [(.t 24),(.t 28)]),Ma 30 (.mv (.t 0)),Ma 31 (.nilck (.t 30)),Ma 32 (.faddr 0 (.t 31)),Ma 33 (.faddr 4 (.t 32)),Ma 34 (.load false 1 (.t 33)),Ma 35 (.bin .neq (.t 29) (.t 34))]
@[simp] theorem l94_6:q94_6.length=15:=rfl
def p94_6:List (List Nat):=[[],[0],[1],[2],[],[4],[5],[6],[3,7],[],[9],[10],[11],[12],[8,13]]
instance:KD Try.f94.ntmps q94_6 p94_6:=⟨[[],[0],[0,1],[0,1,2],[],[4],[4,5],[4,5,6],[0,1,2,3,4,5,6,7],[],[9],[9,10],[9,10,11],[9,10,11,12],[0,1,2,3,4,5,6,7,8,9,10,11,12,13]],[5,35],by kernel_rfl⟩
def q94_7:List MO:=[Ma 6 (.mv (.c (.bool false)))]
@[simp] theorem l94_7:q94_7.length=1:=rfl
instance:KR Try.f94.ntmps q94_7:=⟨[6],by kernel_rfl⟩
def q94_8:List MO:=[Ma 36 (.faddr 0 (.t 5)),Ma 37 (.load false 1 (.t 36)),Ma 38 (.bin .eql (.t 37) (.c (.int .i64 2))),Ma 6 (.mv (.t 38))]
@[simp] theorem l94_8:q94_8.length=4:=rfl
instance:KR Try.f94.ntmps q94_8:=⟨[6],by kernel_rfl⟩
def q94_9:List MO:=[Ma 6 (.mv (.c (.bool false)))]
@[simp] theorem l94_9:q94_9.length=1:=rfl
instance:KR Try.f94.ntmps q94_9:=⟨[6],by kernel_rfl⟩
def m94:MCode:=.seq (.reg q94_0) (.seq (.seq (.reg q94_1) (.block 0 (.seq (.block 3 (.seq (.block 2 (.seq (.block 1 (.seq (.seq (.seq (.reg q94_2) (.cond (.t 12) (.exit 1) .skip)) (.seq (.seq (.reg q94_3) (.cond (.t 14) (.exit 2) .skip)) (.seq (.reg q94_4) (.cond (.t 16) (.exit 3) .skip)))) (.exit 0))) (.seq (.seq (.reg q94_5) .ret) (.exit 0)))) (.seq (.draw q94_6 p94_6) (.cond (.t 35) (.seq (.reg q94_7) .ret) .skip)))) (.seq (.seq (.reg q94_8) .ret) (.exit 0))))) (.seq (.reg q94_9) .ret))
theorem rc94:rcOf Try.prog Try.f94=some m94:=by kernel_rfl
theorem rv94:rRVs Try.prog Try.f94.results.toList=some [(.t 6)]:=by kernel_rfl
theorem nm94:(Try.f94.name == "runtime.NumGoroutine")=false:=by kernel_rfl
def q77_0:List MO:=[Ma 5 (.mv (.t 0)),Ma 6 (.nilck (.t 5)),Ma 7 (.faddr 6 (.t 6)),Ma 8 (.load false 1 (.t 7)),Ma 9 (.call (.c (.fn 55 [])) [(.t 8)]),Ma 4 (.alloc [(.int .i64 0),(.bool false),(.int .i64 0),(.int .i64 0),(.int .i64 0)]),Mb (.store 5 (.t 4) (.t 9))]
@[simp] theorem l77_0:q77_0.length=7:=rfl
instance:KR Try.f77.ntmps q77_0:=⟨[0,1,4],by kernel_rfl⟩
def q77_1:List MO:=[Ma 10 (.mv (.t 0)),Ma 11 (.mv (.t 1)),Ma 12 (.load true 5 (.t 4)),Ma 13 (.call (.c (.fn 92 [])) [(.t 10),(.t 11),(.t 12)])]
@[simp] theorem l77_1:q77_1.length=4:=rfl
instance:KR Try.f77.ntmps q77_1:=⟨[0,1,4,13],by kernel_rfl⟩
def q77_2:List MO:=[Ma 14 (.mv (.t 0)),Ma 15 (.mv (.t 1)),Ma 16 (.mv (.t 0)),Ma 17 (.nilck (.t 16)),Ma 18 (.faddr 0 (.t 17)),Ma 19 (.faddr 1 (.t 18)),Ma 20 (.load false 1 (.t 19)),Ma 21 (.mv (.t 0)),Ma 22 (.nilck (.t 21)),Ma 23 (.faddr 6 (.t 22)),Ma 24 (.load false 1 (.t 23)),Ma 25 (.load true 5 (.t 4)),Ma 26 (.call (.c (.fn 93 [])) [(.t 25)]),Ma 27 (.call (.c (.fn 26 [])) [(.t 15),(.t 20),(.t 24),(.t 26)]),Ma 28 (.nilck (.t 14)),Ma 29 (.faddr 18 (.t 28)),Mb (.store 1 (.t 29) (.t 27))]
@[simp] theorem l77_2:q77_2.length=17:=rfl
def p77_2:List (List Nat):=[[],[],[],[2],[3],[4],[5],[],[7],[8],[9],[],[11],[1,6,10,12,12],[0,0,1,2,3,4,5,6,7,8,9,10,11,12,13],[14,0,1,2,3,4,5,6,7,8,9,10,11,12,13],[15,13,13,0,1,2,3,4,5,6,7,8,9,10,11,12,13]]
instance:KD Try.f77.ntmps q77_2 p77_2:=⟨[[],[],[],[2],[2,3],[2,3,4],[2,3,4,5],[],[7],[7,8],[7,8,9],[],[11],[1,2,3,4,5,6,7,8,9,10,11,12],[0,1,2,3,4,5,6,7,8,9,10,11,12,13],[0,1,2,3,4,5,6,7,8,9,10,11,12,13,14],[0,1,2,3,4,5,6,7,8,9,10,11,12,13,14,15]],[],by kernel_rfl⟩
def m77:MCode:=.seq (.reg q77_0) (.seq (.reg q77_1) (.cond (.t 13) (.draw q77_2 p77_2) .skip))
theorem rc77:rcOf Try.prog Try.f77=some m77:=by kernel_rfl
theorem rv77:rRVs Try.prog Try.f77.results.toList=some []:=by kernel_rfl
theorem nm77:(Try.f77.name == "runtime.NumGoroutine")=false:=by kernel_rfl
def q78_0:List MO:=[Ma 8 (.mv (.t 0)),Ma 9 (.nilck (.t 8)),Ma 10 (.faddr 6 (.t 9)),Ma 11 (.load false 1 (.t 10)),Ma 12 (.call (.c (.fn 55 [])) [(.t 11)]),Ma 13 (.mv (.t 0)),Ma 14 (.nilck (.t 13)),Ma 15 (.faddr 7 (.t 14)),Ma 16 (.load false 1 (.t 15)),Ma 17 (.call (.c (.fn 55 [])) [(.t 16)]),Ma 4 (.alloc [(.int .i64 0),(.bool false),(.int .i64 0),(.int .i64 0),(.int .i64 0)]),Ma 5 (.alloc [(.int .i64 0),(.bool false),(.int .i64 0),(.int .i64 0),(.int .i64 0)]),Mb (.store 5 (.t 4) (.t 12)),Mb (.store 5 (.t 5) (.t 17))]
@[simp] theorem l78_0:q78_0.length=14:=rfl
def p78_0:List (List Nat):=[[],[0],[1],[2],[3],[],[5],[6],[7],[8,4],[],[],[10,4,9,0,1,2,3,4,10,11],[11,9,12,0,1,2,3,4,5,6,7,8,9,10,11,12]]
instance:KD Try.f78.ntmps q78_0 p78_0:=⟨[[],[0],[0,1],[0,1,2],[0,1,2,3],[],[5],[5,6],[5,6,7],[0,1,2,3,4,5,6,7,8],[],[],[0,1,2,3,4,5,6,7,8,9,10,11],[0,1,2,3,4,5,6,7,8,9,10,11,12]],[0,1,4,5],by kernel_rfl⟩
def q78_1:List MO:=[Ma 18 (.mv (.t 0)),Ma 19 (.nilck (.t 18)),Ma 20 (.faddr 18 (.t 19)),Ma 21 (.load false 1 (.t 20)),Ma 22 (.un .not (.t 21)),Ma 23 (.mv (.t 22)),Mg 24 (.mv (.t 0)) 23 false,Mg 25 (.mv (.t 1)) 23 false,Mg 26 (.load true 5 (.t 5)) 23 false,Mg 27 (.call (.c (.fn 94 [])) [(.t 24),(.t 25),(.t 26)]) 23 false,Mg 28 (.un .not (.t 27)) 23 false,Ma 29 (.pick (.t 23) (.c (.bool true)) (.t 28))]
@[simp] theorem l78_1:q78_1.length=12:=rfl
instance:KR Try.f78.ntmps q78_1:=⟨[0,1,4,5,29],by kernel_rfl⟩
def q78_2:List MO:=[Ma 30 (.mv (.t 0)),Ma 31 (.mv (.t 0)),Ma 32 (.nilck (.t 31)),Ma 33 (.faddr 8 (.t 32)),Ma 34 (.load true 5 (.t 33)),Ma 35 (.mv (.t 0)),Ma 36 (.nilck (.t 35)),Ma 37 (.faddr 13 (.t 36)),Ma 38 (.load true 5 (.t 37)),Ma 39 (.faddr 3 (.t 4)),Ma 40 (.load false 1 (.t 39)),Ma 41 (.faddr 3 (.t 5)),Ma 42 (.load false 1 (.t 41)),Ma 43 (.call (.c (.fn 95 [])) [(.t 34),(.t 38),(.t 40),(.t 42)]),Ma 44 (.nilck (.t 30)),Ma 45 (.faddr 21 (.t 44)),Mb (.store 2 (.t 45) (.t 43))]
@[simp] theorem l78_2:q78_2.length=17:=rfl
def p78_2:List (List Nat):=[[],[],[1],[2],[3],[],[5],[6],[7],[],[9],[],[11],[4,8,10,12],[0,0,1,2,3,4,5,6,7,8,9,10,11,12,13],[14,0,1,2,3,4,5,6,7,8,9,10,11,12,13],[15,13,13,0,1,2,3,4,5,6,7,8,9,10,11,12,13]]
instance:KD Try.f78.ntmps q78_2 p78_2:=⟨[[],[],[1],[1,2],[1,2,3],[],[5],[5,6],[5,6,7],[],[9],[],[11],[1,2,3,4,5,6,7,8,9,10,11,12],[0,1,2,3,4,5,6,7,8,9,10,11,12,13],[0,1,2,3,4,5,6,7,8,9,10,11,12,13,14],[0,1,2,3,4,5,6,7,8,9,10,11,12,13,14,15]],[0,1,4,5],by kernel_rfl⟩
def q78_3:List MO:=[Ma 47 (.load true 5 (.t 5)),Ma 48 (.mv (.t 0)),Ma 49 (.nilck (.t 48)),Ma 50 (.faddr 21 (.t 49)),Ma 51 (.faddr 0 (.t 50)),Ma 52 (.load false 1 (.t 51)),Ma 53 (.mv (.t 1)),Ma 54 (.nilck (.t 53)),Ma 55 (.faddr 0 (.t 54)),Ma 56 (.faddr 0 (.t 55)),Ma 57 (.faddr 5 (.t 56)),Ma 58 (.load false 1 (.t 57)),Ma 59 (.call (.c (.fn 96 [])) [(.t 47),(.t 52),(.t 58)]),Ma 46 (.mv (.t 59)),Ma 60 (.ext (.t 46) 0),Ma 61 (.ext (.t 46) 1),Ma 6 (.alloc [(.int .i64 0),(.bool false),(.int .i64 0),(.int .i64 0),(.int .i64 0)]),Mb (.store 5 (.t 6) (.t 60)),Ma 7 (.mv (.t 61))]
@[simp] theorem l78_3:q78_3.length=19:=rfl
def p78_3:List (List Nat):=[[],[],[1],[2],[3],[4],[],[6],[7],[8],[9],[10],[0,5,11],[12],[13],[13],[],[16,14,12,0,1,2,3,4,5,6,7,8,9,10,11,12,13,14,16],[15,17,0,1,2,3,4,5,6,7,8,9,10,11,12,13,14,15,16,17]]
instance:KD Try.f78.ntmps q78_3 p78_3:=⟨[[],[],[1],[1,2],[1,2,3],[1,2,3,4],[],[6],[6,7],[6,7,8],[6,7,8,9],[6,7,8,9,10],[0,1,2,3,4,5,6,7,8,9,10,11],[0,1,2,3,4,5,6,7,8,9,10,11,12],[0,1,2,3,4,5,6,7,8,9,10,11,12,13],[0,1,2,3,4,5,6,7,8,9,10,11,12,13],[],[0,1,2,3,4,5,6,7,8,9,10,11,12,13,14,16],[0,1,2,3,4,5,6,7,8,9,10,11,12,13,14,15,16,17]],[0,1,4,5,6,7],by kernel_rfl⟩
def q78_4:List MO:=[Ma 62 (.mv (.t 7)),Ma 63 (.eq true .iface (.t 62) (.c (.raw .nilIface))),Ma 64 (.mv (.t 63)),Mg 65 (.mv (.t 1)) 64 false,Mg 66 (.mv (.t 0)) 64 false,Mg 67 (.nilck (.t 66)) 64 false,Mg 68 (.faddr 0 (.t 67)) 64 false,Mg 69 (.faddr 3 (.t 68)) 64 false,Mg 70 (.load false 1 (.t 69)) 64 false,Mg 71 (.mv (.t 0)) 64 false,Mg 72 (.nilck (.t 71)) 64 false,Mg 73 (.faddr 7 (.t 72)) 64 false,Mg 74 (.load false 1 (.t 73)) 64 false,Mg 75 (.load true 5 (.t 6)) 64 false,Mg 76 (.call (.c (.fn 26 [])) [(.t 65),(.t 70),(.t 74),(.t 75)]) 64 false,Mg 77 (.un .not (.t 76)) 64 false,Ma 78 (.pick (.t 64) (.c (.bool true)) (.t 77))]
@[simp] theorem l78_4:q78_4.length=17:=rfl
def p78_4:List (List Nat):=[[],[0],[1],[2],[2],[4,2],[5,2],[6,2],[7,2],[2],[9,2],[10,2],[11,2],[2],[3,8,12,13,2,2],[14,2],[2,15]]
instance:KD Try.f78.ntmps q78_4 p78_4:=⟨[[],[0],[0,1],[0,1,2],[0,1,2],[0,1,2,4],[0,1,2,4,5],[0,1,2,4,5,6],[0,1,2,4,5,6,7],[0,1,2],[0,1,2,9],[0,1,2,9,10],[0,1,2,9,10,11],[0,1,2],[0,1,2,3,4,5,6,7,8,9,10,11,12,13],[0,1,2,3,4,5,6,7,8,9,10,11,12,13,14],[0,1,2,3,4,5,6,7,8,9,10,11,12,13,14,15]],[0,1,4,5,6,78],by kernel_rfl⟩
def q78_5:List MO:=[Ma 79 (.mv (.t 0)),Ma 80 (.mv (.t 0)),Ma 81 (.mv (.t 0)),Ma 82 (.load true 5 (.t 6)),Ma 83 (.mv (.t 1)),Ma 84 (.nilck (.t 83)),Ma 85 (.faddr 8 (.t 84)),Ma 86 (.load false 1 (.t 85)),Ma 87 (.call (.c (.fn 24 [])) [(.t 86)]),Ma 88 (.nilck (.t 79)),Ma 89 (.faddr 19 (.t 88)),Mb (.store 1 (.t 89) (.c (.bool true))),Ma 90 (.nilck (.t 80)),Ma 91 (.faddr 30 (.t 90)),Mb (.store 5 (.t 91) (.t 82)),Ma 92 (.nilck (.t 81)),Ma 93 (.faddr 23 (.t 92)),Mb (.store 1 (.t 93) (.t 87))]
@[simp] theorem l78_5:q78_5.length=18:=rfl
def p78_5:List (List Nat):=[[],[],[],[],[],[4],[5],[6],[7],[0,0,7,8],[9,0,7,8],[10,8,0,7,8],[1,0,1,3,7,8,9,10,11],[12,0,1,3,7,8,9,10,11],[13,3,11,0,1,3,7,8,9,10,11],[2,0,1,2,3,4,5,6,7,8,9,10,11,12,13,14],[15,0,1,2,3,4,5,6,7,8,9,10,11,12,13,14],[16,8,14,0,1,2,3,4,5,6,7,8,9,10,11,12,13,14]]
instance:KD Try.f78.ntmps q78_5 p78_5:=⟨[[],[],[],[],[],[4],[4,5],[4,5,6],[4,5,6,7],[0,4,5,6,7,8],[0,4,5,6,7,8,9],[0,4,5,6,7,8,9,10],[0,1,3,4,5,6,7,8,9,10,11],[0,1,3,4,5,6,7,8,9,10,11,12],[0,1,3,4,5,6,7,8,9,10,11,12,13],[0,1,2,3,4,5,6,7,8,9,10,11,12,13,14],[0,1,2,3,4,5,6,7,8,9,10,11,12,13,14,15],[0,1,2,3,4,5,6,7,8,9,10,11,12,13,14,15,16]],[0,1,4,5],by kernel_rfl⟩
def q78_6:List MO:=[Ma 94 (.mv (.t 1)),Ma 95 (.mv (.t 0)),Ma 96 (.nilck (.t 95)),Ma 97 (.faddr 0 (.t 96)),Ma 98 (.faddr 1 (.t 97)),Ma 99 (.load false 1 (.t 98)),Ma 100 (.faddr 2 (.t 4)),Ma 101 (.load false 1 (.t 100)),Ma 102 (.mv (.t 0)),Ma 103 (.nilck (.t 102)),Ma 104 (.faddr 0 (.t 103)),Ma 105 (.faddr 3 (.t 104)),Ma 106 (.load false 1 (.t 105)),Ma 107 (.faddr 2 (.t 5)),Ma 108 (.load false 1 (.t 107)),Ma 109 (.mv (.t 0)),Ma 110 (.nilck (.t 109)),Ma 111 (.faddr 21 (.t 110)),Ma 112 (.faddr 0 (.t 111)),Ma 113 (.load false 1 (.t 112)),Ma 114 (.mv (.t 0)),Ma 115 (.nilck (.t 114)),Ma 116 (.faddr 21 (.t 115)),Ma 117 (.faddr 1 (.t 116)),Ma 118 (.load false 1 (.t 117)),Ma 119 (.build [(.int .i64 0),(.int .i64 0),(.int .i64 0),(.int .i64 0),(.int .i64 0),(.int .i64 0),(.int .i64 0),(.int .i64 0),(.int .i64 0),(.int .i64 0),(.int .i64 0),(.int .i64 0),(.int .i64 0),(.int .i64 0)] [(0,(1,(.c (.int .i64 2)))),(1,(1,(.t 99))),(2,(1,(.t 101))),(3,(1,(.t 106))),(4,(1,(.t 108))),(10,(1,(.t 113))),(11,(1,(.t 118)))]),Ma 120 (.call (.c (.fn 23 [])) [(.t 94),(.t 119)])]
@[simp] theorem l78_6:q78_6.length=27:=rfl
def p78_6:List (List Nat):=[[],[],[1],[2],[3],[4],[],[6],[],[8],[9],[10],[11],[],[13],[],[15],[16],[17],[18],[],[20],[21],[22],[23],[5,7,12,14,19,24],[0,25]]
instance:KD Try.f78.ntmps q78_6 p78_6:=⟨[[],[],[1],[1,2],[1,2,3],[1,2,3,4],[],[6],[],[8],[8,9],[8,9,10],[8,9,10,11],[],[13],[],[15],[15,16],[15,16,17],[15,16,17,18],[],[20],[20,21],[20,21,22],[20,21,22,23],[1,2,3,4,5,6,7,8,9,10,11,12,13,14,15,16,17,18,19,20,21,22,23,24],[0,1,2,3,4,5,6,7,8,9,10,11,12,13,14,15,16,17,18,19,20,21,22,23,24,25]],[],by kernel_rfl⟩
def m78:MCode:=.seq (.draw q78_0 p78_0) (.seq (.seq (.reg q78_1) (.cond (.t 29) .ret .skip)) (.seq (.draw q78_2 p78_2) (.seq (.draw q78_3 p78_3) (.seq (.seq (.draw q78_4 p78_4) (.cond (.t 78) .ret .skip)) (.seq (.draw q78_5 p78_5) (.draw q78_6 p78_6))))))
theorem rc78:rcOf Try.prog Try.f78=some m78:=by kernel_rfl
theorem rv78:rRVs Try.prog Try.f78.results.toList=some []:=by kernel_rfl
theorem nm78:(Try.f78.name == "runtime.NumGoroutine")=false:=by kernel_rfl
def q79_0:List MO:=[Ma 4 (.mv (.t 0)),Ma 5 (.nilck (.t 4)),Ma 6 (.faddr 18 (.t 5)),Ma 7 (.load false 1 (.t 6)),Ma 8 (.mv (.t 7)),Mg 9 (.mv (.t 0)) 8 true,Mg 10 (.nilck (.t 9)) 8 true,Mg 11 (.faddr 20 (.t 10)) 8 true,Mg 12 (.load false 1 (.t 11)) 8 true,Mg 13 (.un .not (.t 12)) 8 true,Ma 14 (.pick (.t 8) (.t 13) (.c (.bool false)))]
@[simp] theorem l79_0:q79_0.length=11:=rfl
instance:KR Try.f79.ntmps q79_0:=⟨[0,1,14],by kernel_rfl⟩
def q79_1:List MO:=[Ma 16 (.mv (.t 0)),Ma 17 (.mv (.t 1)),Ma 18 (.mv (.t 0)),Ma 19 (.nilck (.t 18)),Ma 20 (.faddr 0 (.t 19)),Ma 21 (.faddr 1 (.t 20)),Ma 22 (.load false 1 (.t 21)),Ma 23 (.call (.c (.fn 14 [])) [(.t 17),(.t 22)]),Ma 15 (.mv (.t 23)),Ma 24 (.ext (.t 15) 0),Ma 25 (.ext (.t 15) 1),Ma 26 (.nilck (.t 16)),Ma 27 (.faddr 6 (.t 26)),Mb (.store 1 (.t 27) (.t 24))]
@[simp] theorem l79_1:q79_1.length=14:=rfl
instance:KR Try.f79.ntmps q79_1:=⟨[],by kernel_rfl⟩
def m79:MCode:=.seq (.reg q79_0) (.cond (.t 14) (.reg q79_1) .skip)
theorem rc79:rcOf Try.prog Try.f79=some m79:=by kernel_rfl
theorem rv79:rRVs Try.prog Try.f79.results.toList=some []:=by kernel_rfl
theorem nm79:(Try.f79.name == "runtime.NumGoroutine")=false:=by kernel_rfl
def q80_0:List MO:=[Ma 7 (.mv (.t 0)),Ma 8 (.nilck (.t 7)),Ma 9 (.faddr 18 (.t 8)),Ma 10 (.load false 1 (.t 9)),Ma 11 (.un .not (.t 10)),Ma 12 (.mv (.t 11)),Mg 13 (.mv (.t 0)) 12 false,Mg 14 (.nilck (.t 13)) 12 false,Mg 15 (.faddr 20 (.t 14)) 12 false,Mg 16 (.load false 1 (.t 15)) 12 false,Ma 17 (.pick (.t 12) (.c (.bool true)) (.t 16))]
@[simp] theorem l80_0:q80_0.length=11:=rfl
instance:KR Try.f80.ntmps q80_0:=⟨[0,1,17],by kernel_rfl⟩
def q80_1:List MO:=[Ma 4 (.mv (.c (.int .i64 0)))]
@[simp] theorem l80_1:q80_1.length=1:=rfl
instance:KR Try.f80.ntmps q80_1:=⟨[0,1,4],by kernel_rfl⟩
def q80_2:List MO:=[Ma 18 (.mv (.t 0)),Ma 19 (.nilck (.t 18)),Ma 20 (.faddr 19 (.t 19)),Ma 21 (.load false 1 (.t 20))]
@[simp] theorem l80_2:q80_2.length=4:=rfl
instance:KR Try.f80.ntmps q80_2:=⟨[0,1,4,21],by kernel_rfl⟩
def q80_3:List MO:=[Ma 22 (.mv (.t 0)),Ma 23 (.nilck (.t 22)),Ma 24 (.faddr 21 (.t 23)),Ma 25 (.faddr 0 (.t 24)),Ma 26 (.load false 1 (.t 25)),Ma 4 (.mv (.t 26))]
@[simp] theorem l80_3:q80_3.length=6:=rfl
instance:KR Try.f80.ntmps q80_3:=⟨[0,1,4],by kernel_rfl⟩
def q80_4:List MO:=[Ma 28 (.mv (.t 0)),Ma 29 (.nilck (.t 28)),Ma 30 (.faddr 6 (.t 29)),Ma 31 (.load false 1 (.t 30)),Ma 32 (.call (.c (.fn 55 [])) [(.t 31)]),Ma 33 (.mv (.t 4)),Ma 34 (.mv (.t 1)),Ma 35 (.nilck (.t 34)),Ma 36 (.faddr 0 (.t 35)),Ma 37 (.faddr 0 (.t 36)),Ma 38 (.faddr 5 (.t 37)),Ma 39 (.load false 1 (.t 38)),Ma 40 (.call (.c (.fn 97 [])) [(.t 32),(.t 33),(.t 39)]),Ma 27 (.mv (.t 40)),Ma 41 (.ext (.t 27) 0),Ma 42 (.ext (.t 27) 1),Ma 5 (.alloc [(.int .i64 0),(.bool false),(.int .i64 0),(.int .i64 0),(.int .i64 0)]),Mb (.store 5 (.t 5) (.t 41)),Ma 6 (.mv (.t 42))]
@[simp] theorem l80_4:q80_4.length=19:=rfl
def p80_4:List (List Nat):=[[],[0],[1],[2],[3],[],[],[6],[7],[8],[9],[10],[4,5,11,4],[12],[13],[13],[],[16,14,12,0,1,2,3,4,5,6,7,8,9,10,11,12,13,14,16],[15,17,0,1,2,3,4,5,6,7,8,9,10,11,12,13,14,15,16,17]]
instance:KD Try.f80.ntmps q80_4 p80_4:=⟨[[],[0],[0,1],[0,1,2],[0,1,2,3],[],[],[6],[6,7],[6,7,8],[6,7,8,9],[6,7,8,9,10],[0,1,2,3,4,5,6,7,8,9,10,11],[0,1,2,3,4,5,6,7,8,9,10,11,12],[0,1,2,3,4,5,6,7,8,9,10,11,12,13],[0,1,2,3,4,5,6,7,8,9,10,11,12,13],[],[0,1,2,3,4,5,6,7,8,9,10,11,12,13,14,16],[0,1,2,3,4,5,6,7,8,9,10,11,12,13,14,15,16,17]],[0,1,5,6],by kernel_rfl⟩
def q80_5:List MO:=[Ma 43 (.mv (.t 6)),Ma 44 (.eq true .iface (.t 43) (.c (.raw .nilIface))),Ma 45 (.mv (.t 44)),Mg 46 (.mv (.t 1)) 45 false,Mg 47 (.mv (.t 0)) 45 false,Mg 48 (.nilck (.t 47)) 45 false,Mg 49 (.faddr 0 (.t 48)) 45 false,Mg 50 (.faddr 1 (.t 49)) 45 false,Mg 51 (.load false 1 (.t 50)) 45 false,Mg 52 (.mv (.t 0)) 45 false,Mg 53 (.nilck (.t 52)) 45 false,Mg 54 (.faddr 6 (.t 53)) 45 false,Mg 55 (.load false 1 (.t 54)) 45 false,Mg 56 (.load true 5 (.t 5)) 45 false,Mg 57 (.call (.c (.fn 26 [])) [(.t 46),(.t 51),(.t 55),(.t 56)]) 45 false,Mg 58 (.un .not (.t 57)) 45 false,Ma 59 (.pick (.t 45) (.c (.bool true)) (.t 58))]
@[simp] theorem l80_5:q80_5.length=17:=rfl
def p80_5:List (List Nat):=[[],[0],[1],[2],[2],[4,2],[5,2],[6,2],[7,2],[2],[9,2],[10,2],[11,2],[2],[3,8,12,13,2,2],[14,2],[2,15]]
instance:KD Try.f80.ntmps q80_5 p80_5:=⟨[[],[0],[0,1],[0,1,2],[0,1,2],[0,1,2,4],[0,1,2,4,5],[0,1,2,4,5,6],[0,1,2,4,5,6,7],[0,1,2],[0,1,2,9],[0,1,2,9,10],[0,1,2,9,10,11],[0,1,2],[0,1,2,3,4,5,6,7,8,9,10,11,12,13],[0,1,2,3,4,5,6,7,8,9,10,11,12,13,14],[0,1,2,3,4,5,6,7,8,9,10,11,12,13,14,15]],[0,1,5,59],by kernel_rfl⟩
def q80_6:List MO:=[Ma 60 (.mv (.t 0)),Ma 61 (.mv (.t 0)),Ma 62 (.mv (.t 0)),Ma 63 (.load true 5 (.t 5)),Ma 64 (.mv (.t 1)),Ma 65 (.nilck (.t 64)),Ma 66 (.faddr 8 (.t 65)),Ma 67 (.load false 1 (.t 66)),Ma 68 (.call (.c (.fn 24 [])) [(.t 67)]),Ma 69 (.nilck (.t 60)),Ma 70 (.faddr 20 (.t 69)),Mb (.store 1 (.t 70) (.c (.bool true))),Ma 71 (.nilck (.t 61)),Ma 72 (.faddr 25 (.t 71)),Mb (.store 5 (.t 72) (.t 63)),Ma 73 (.nilck (.t 62)),Ma 74 (.faddr 24 (.t 73)),Mb (.store 1 (.t 74) (.t 68))]
@[simp] theorem l80_6:q80_6.length=18:=rfl
def p80_6:List (List Nat):=[[],[],[],[],[],[4],[5],[6],[7],[0,0,7,8],[9,0,7,8],[10,8,0,7,8],[1,0,1,3,7,8,9,10,11],[12,0,1,3,7,8,9,10,11],[13,3,11,0,1,3,7,8,9,10,11],[2,0,1,2,3,4,5,6,7,8,9,10,11,12,13,14],[15,0,1,2,3,4,5,6,7,8,9,10,11,12,13,14],[16,8,14,0,1,2,3,4,5,6,7,8,9,10,11,12,13,14]]
instance:KD Try.f80.ntmps q80_6 p80_6:=⟨[[],[],[],[],[],[4],[4,5],[4,5,6],[4,5,6,7],[0,4,5,6,7,8],[0,4,5,6,7,8,9],[0,4,5,6,7,8,9,10],[0,1,3,4,5,6,7,8,9,10,11],[0,1,3,4,5,6,7,8,9,10,11,12],[0,1,3,4,5,6,7,8,9,10,11,12,13],[0,1,2,3,4,5,6,7,8,9,10,11,12,13,14],[0,1,2,3,4,5,6,7,8,9,10,11,12,13,14,15],[0,1,2,3,4,5,6,7,8,9,10,11,12,13,14,15,16]],[0,1,5],by kernel_rfl⟩
def q80_7:List MO:=[Ma 75 (.load true 5 (.t 5)),Ma 76 (.call (.c (.fn 98 [])) [(.t 75)])]
@[simp] theorem l80_7:q80_7.length=2:=rfl
instance:KR Try.f80.ntmps q80_7:=⟨[0,1,5,76],by kernel_rfl⟩
def q80_8:List MO:=[Ma 77 (.mv (.t 1)),Ma 78 (.mv (.t 0)),Ma 79 (.nilck (.t 78)),Ma 80 (.faddr 0 (.t 79)),Ma 81 (.faddr 1 (.t 80)),Ma 82 (.load false 1 (.t 81)),Ma 83 (.faddr 2 (.t 5)),Ma 84 (.load false 1 (.t 83)),Ma 85 (.faddr 0 (.t 5)),Ma 86 (.load false 1 (.t 85)),Ma 87 (.build [(.int .i64 0),(.int .i64 0),(.int .i64 0),(.int .i64 0),(.int .i64 0),(.int .i64 0),(.int .i64 0),(.int .i64 0),(.int .i64 0),(.int .i64 0),(.int .i64 0),(.int .i64 0),(.int .i64 0),(.int .i64 0)] [(0,(1,(.c (.int .i64 7)))),(1,(1,(.t 82))),(2,(1,(.t 84))),(13,(1,(.t 86)))]),Ma 88 (.call (.c (.fn 23 [])) [(.t 77),(.t 87)])]
@[simp] theorem l80_8:q80_8.length=12:=rfl
def p80_8:List (List Nat):=[[],[],[1],[2],[3],[4],[],[6],[],[8],[5,7,9],[0,10]]
instance:KD Try.f80.ntmps q80_8 p80_8:=⟨[[],[],[1],[1,2],[1,2,3],[1,2,3,4],[],[6],[],[8],[1,2,3,4,5,6,7,8,9],[0,1,2,3,4,5,6,7,8,9,10]],[],by kernel_rfl⟩
def m80:MCode:=.seq (.seq (.reg q80_0) (.cond (.t 17) .ret .skip)) (.seq (.reg q80_1) (.seq (.seq (.reg q80_2) (.cond (.t 21) (.reg q80_3) .skip)) (.seq (.draw q80_4 p80_4) (.seq (.seq (.draw q80_5 p80_5) (.cond (.t 59) .ret .skip)) (.seq (.draw q80_6 p80_6) (.seq (.reg q80_7) (.cond (.t 76) (.draw q80_8 p80_8) .skip)))))))
theorem rc80:rcOf Try.prog Try.f80=some m80:=by kernel_rfl
theorem rv80:rRVs Try.prog Try.f80.results.toList=some []:=by kernel_rfl
theorem nm80:(Try.f80.name == "runtime.NumGoroutine")=false:=by kernel_rfl
def q81_0:List MO:=[Ma 9 (.mv (.t 0)),Ma 10 (.nilck (.t 9)),Ma 11 (.faddr 5 (.t 10)),Ma 12 (.load false 1 (.t 11)),Ma 13 (.bin .eql (.t 12) (.c (.int .i64 10))),Ma 14 (.mv (.t 13)),Mg 15 (.mv (.t 0)) 14 true,Mg 16 (.nilck (.t 15)) 14 true,Mg 17 (.faddr 19 (.t 16)) 14 true,Mg 18 (.load false 1 (.t 17)) 14 true,Ma 19 (.pick (.t 14) (.t 18) (.c (.bool false))),Ma 8 (.mv (.t 19))]
@[simp] theorem l81_0:q81_0.length=12:=rfl
instance:KR Try.f81.ntmps q81_0:=⟨[0,1,8],by kernel_rfl⟩
def q81_1:List MO:=[Ma 20 (.mv (.t 1)),Ma 21 (.mv (.t 0)),Ma 22 (.nilck (.t 21)),Ma 23 (.faddr 0 (.t 22)),Ma 24 (.faddr 1 (.t 23)),Ma 25 (.load false 1 (.t 24)),Ma 26 (.mv (.t 0)),Ma 27 (.nilck (.t 26)),Ma 28 (.faddr 25 (.t 27)),Ma 29 (.faddr 2 (.t 28)),Ma 30 (.load false 1 (.t 29)),Ma 31 (.mv (.t 0)),Ma 32 (.nilck (.t 31)),Ma 33 (.faddr 25 (.t 32)),Ma 34 (.faddr 4 (.t 33)),Ma 35 (.load false 1 (.t 34)),Ma 36 (.bin .sub (.t 35) (.c (.int .i64 1))),Ma 37 (.mv (.t 0)),Ma 38 (.mv (.t 0)),Ma 39 (.nilck (.t 38)),Ma 40 (.faddr 0 (.t 39)),Ma 41 (.faddr 3 (.t 40)),Ma 42 (.load false 1 (.t 41)),Ma 43 (.mv (.t 0)),Ma 44 (.nilck (.t 43)),Ma 45 (.faddr 30 (.t 44)),Ma 46 (.faddr 2 (.t 45)),Ma 47 (.load false 1 (.t 46)),Ma 48 (.call (.c (.fn 99 [])) [(.t 37),(.t 42),(.t 47)]),Ma 49 (.call (.c (.fn 68 [])) [(.t 20),(.t 25),(.t 30),(.t 36),(.t 48)])]
@[simp] theorem l81_1:q81_1.length=30:=rfl
def p81_1:List (List Nat):=[[],[],[1],[2],[3],[4],[],[6],[7],[8],[9],[],[11],[12],[13],[14],[15],[],[],[18],[19],[20],[21],[],[23],[24],[25],[26],[17,22,27],[0,5,10,16,28,28]]
instance:KD Try.f81.ntmps q81_1 p81_1:=⟨[[],[],[1],[1,2],[1,2,3],[1,2,3,4],[],[6],[6,7],[6,7,8],[6,7,8,9],[],[11],[11,12],[11,12,13],[11,12,13,14],[11,12,13,14,15],[],[],[18],[18,19],[18,19,20],[18,19,20,21],[],[23],[23,24],[23,24,25],[23,24,25,26],[17,18,19,20,21,22,23,24,25,26,27],[0,1,2,3,4,5,6,7,8,9,10,11,12,13,14,15,16,17,18,19,20,21,22,23,24,25,26,27,28]],[],by kernel_rfl⟩
def q81_2:List MO:=[Ma 51 (.mv (.t 0)),Ma 52 (.nilck (.t 51)),Ma 53 (.faddr 5 (.t 52)),Ma 54 (.load false 1 (.t 53)),Ma 55 (.bin .eql (.t 54) (.c (.int .i64 11))),Ma 56 (.mv (.t 55)),Mg 57 (.mv (.t 0)) 56 true,Mg 58 (.nilck (.t 57)) 56 true,Mg 59 (.faddr 19 (.t 58)) 56 true,Mg 60 (.load false 1 (.t 59)) 56 true,Ma 61 (.pick (.t 56) (.t 60) (.c (.bool false))),Ma 50 (.mv (.t 61))]
@[simp] theorem l81_2:q81_2.length=12:=rfl
instance:KR Try.f81.ntmps q81_2:=⟨[0,1,50],by kernel_rfl⟩
def q81_3:List MO:=[Ma 62 (.mv (.t 1)),Ma 63 (.mv (.t 0)),Ma 64 (.nilck (.t 63)),Ma 65 (.faddr 0 (.t 64)),Ma 66 (.faddr 3 (.t 65)),Ma 67 (.load false 1 (.t 66)),Ma 68 (.mv (.t 0)),Ma 69 (.nilck (.t 68)),Ma 70 (.faddr 30 (.t 69)),Ma 71 (.faddr 2 (.t 70)),Ma 72 (.load false 1 (.t 71)),Ma 73 (.mv (.t 0)),Ma 74 (.nilck (.t 73)),Ma 75 (.faddr 30 (.t 74)),Ma 76 (.faddr 4 (.t 75)),Ma 77 (.load false 1 (.t 76)),Ma 78 (.bin .sub (.t 77) (.c (.int .i64 1))),Ma 79 (.mv (.t 0)),Ma 80 (.mv (.t 0)),Ma 81 (.nilck (.t 80)),Ma 82 (.faddr 0 (.t 81)),Ma 83 (.faddr 1 (.t 82)),Ma 84 (.load false 1 (.t 83)),Ma 85 (.mv (.t 0)),Ma 86 (.nilck (.t 85)),Ma 87 (.faddr 25 (.t 86)),Ma 88 (.faddr 2 (.t 87)),Ma 89 (.load false 1 (.t 88)),Ma 90 (.call (.c (.fn 99 [])) [(.t 79),(.t 84),(.t 89)]),Ma 91 (.call (.c (.fn 68 [])) [(.t 62),(.t 67),(.t 72),(.t 78),(.t 90)])]
@[simp] theorem l81_3:q81_3.length=30:=rfl
def p81_3:List (List Nat):=[[],[],[1],[2],[3],[4],[],[6],[7],[8],[9],[],[11],[12],[13],[14],[15],[],[],[18],[19],[20],[21],[],[23],[24],[25],[26],[17,22,27],[0,5,10,16,28,28]]
instance:KD Try.f81.ntmps q81_3 p81_3:=⟨[[],[],[1],[1,2],[1,2,3],[1,2,3,4],[],[6],[6,7],[6,7,8],[6,7,8,9],[],[11],[11,12],[11,12,13],[11,12,13,14],[11,12,13,14,15],[],[],[18],[18,19],[18,19,20],[18,19,20,21],[],[23],[23,24],[23,24,25],[23,24,25,26],[17,18,19,20,21,22,23,24,25,26,27],[0,1,2,3,4,5,6,7,8,9,10,11,12,13,14,15,16,17,18,19,20,21,22,23,24,25,26,27,28]],[],by kernel_rfl⟩
def q81_4:List MO:=[Ma 93 (.mv (.t 0)),Ma 94 (.nilck (.t 93)),Ma 95 (.faddr 5 (.t 94)),Ma 96 (.load false 1 (.t 95)),Ma 97 (.bin .eql (.t 96) (.c (.int .i64 12))),Ma 98 (.mv (.t 97)),Mg 99 (.mv (.t 0)) 98 true,Mg 100 (.nilck (.t 99)) 98 true,Mg 101 (.faddr 19 (.t 100)) 98 true,Mg 102 (.load false 1 (.t 101)) 98 true,Ma 103 (.pick (.t 98) (.t 102) (.c (.bool false))),Ma 92 (.mv (.t 103))]
@[simp] theorem l81_4:q81_4.length=12:=rfl
instance:KR Try.f81.ntmps q81_4:=⟨[0,1,92],by kernel_rfl⟩
def q81_5:List MO:=[Ma 105 (.mv (.t 0)),Ma 106 (.nilck (.t 105)),Ma 107 (.faddr 30 (.t 106)),Ma 108 (.load true 5 (.t 107)),Ma 109 (.mv (.t 0)),Ma 110 (.nilck (.t 109)),Ma 111 (.faddr 23 (.t 110)),Ma 112 (.load false 1 (.t 111)),Ma 113 (.call (.c (.fn 67 [])) [(.t 108),(.t 112)]),Ma 104 (.mv (.t 113)),Ma 114 (.ext (.t 104) 0),Ma 115 (.ext (.t 104) 1),Ma 4 (.alloc [(.int .i64 0),(.int .i64 0),(.int .i64 0),(.int .i64 0),(.int .i64 0),(.int .i64 0)]),Mb (.store 6 (.t 4) (.t 114)),Ma 5 (.mv (.t 115))]
@[simp] theorem l81_5:q81_5.length=15:=rfl
def p81_5:List (List Nat):=[[],[0],[1],[2],[],[4],[5],[6],[3,7],[8],[9],[9],[],[12,10,8,0,1,2,3,4,5,6,7,8,9,10,12],[11,13,0,1,2,3,4,5,6,7,8,9,10,11,12,13]]
instance:KD Try.f81.ntmps q81_5 p81_5:=⟨[[],[0],[0,1],[0,1,2],[],[4],[4,5],[4,5,6],[0,1,2,3,4,5,6,7],[0,1,2,3,4,5,6,7,8],[0,1,2,3,4,5,6,7,8,9],[0,1,2,3,4,5,6,7,8,9],[],[0,1,2,3,4,5,6,7,8,9,10,12],[0,1,2,3,4,5,6,7,8,9,10,11,12,13]],[0,1,4,5],by kernel_rfl⟩
def q81_6:List MO:=[Ma 116 (.mv (.t 5))]
@[simp] theorem l81_6:q81_6.length=1:=rfl
instance:KR Try.f81.ntmps q81_6:=⟨[0,1,4,116],by kernel_rfl⟩
def q81_7:List MO:=[Ma 117 (.mv (.t 1)),Ma 118 (.mv (.t 0)),Ma 119 (.nilck (.t 118)),Ma 120 (.faddr 0 (.t 119)),Ma 121 (.faddr 3 (.t 120)),Ma 122 (.load false 1 (.t 121)),Ma 123 (.mv (.t 0)),Ma 124 (.nilck (.t 123)),Ma 125 (.faddr 30 (.t 124)),Ma 126 (.faddr 2 (.t 125)),Ma 127 (.load false 1 (.t 126)),Ma 128 (.mv (.t 1)),Ma 129 (.nilck (.t 128)),Ma 130 (.faddr 0 (.t 129)),Ma 131 (.faddr 0 (.t 130)),Ma 132 (.faddr 5 (.t 131)),Ma 133 (.load false 1 (.t 132)),Ma 134 (.load true 6 (.t 4)),Ma 135 (.call (.c (.fn 68 [])) [(.t 117),(.t 122),(.t 127),(.t 133),(.t 134)])]
@[simp] theorem l81_7:q81_7.length=19:=rfl
def p81_7:List (List Nat):=[[],[],[1],[2],[3],[4],[],[6],[7],[8],[9],[],[11],[12],[13],[14],[15],[],[0,5,10,16,17]]
instance:KD Try.f81.ntmps q81_7 p81_7:=⟨[[],[],[1],[1,2],[1,2,3],[1,2,3,4],[],[6],[6,7],[6,7,8],[6,7,8,9],[],[11],[11,12],[11,12,13],[11,12,13,14],[11,12,13,14,15],[],[0,1,2,3,4,5,6,7,8,9,10,11,12,13,14,15,16,17]],[],by kernel_rfl⟩
def q81_8:List MO:=[Ma 137 (.mv (.t 0)),Ma 138 (.nilck (.t 137)),Ma 139 (.faddr 5 (.t 138)),Ma 140 (.load false 1 (.t 139)),Ma 141 (.bin .eql (.t 140) (.c (.int .i64 13))),Ma 142 (.mv (.t 141)),Mg 143 (.mv (.t 0)) 142 true,Mg 144 (.nilck (.t 143)) 142 true,Mg 145 (.faddr 18 (.t 144)) 142 true,Mg 146 (.load false 1 (.t 145)) 142 true,Ma 147 (.pick (.t 142) (.t 146) (.c (.bool false))),Ma 136 (.mv (.t 147))]
@[simp] theorem l81_8:q81_8.length=12:=rfl
instance:KR Try.f81.ntmps q81_8:=⟨[0,1,136],by kernel_rfl⟩
def q81_9:List MO:=[Ma 149 (.mv (.t 0)),Ma 150 (.nilck (.t 149)),Ma 151 (.faddr 25 (.t 150)),Ma 152 (.load true 5 (.t 151)),Ma 153 (.mv (.t 0)),Ma 154 (.nilck (.t 153)),Ma 155 (.faddr 24 (.t 154)),Ma 156 (.load false 1 (.t 155)),Ma 157 (.call (.c (.fn 67 [])) [(.t 152),(.t 156)]),Ma 148 (.mv (.t 157)),Ma 158 (.ext (.t 148) 0),Ma 159 (.ext (.t 148) 1),Ma 6 (.alloc [(.int .i64 0),(.int .i64 0),(.int .i64 0),(.int .i64 0),(.int .i64 0),(.int .i64 0)]),Mb (.store 6 (.t 6) (.t 158)),Ma 7 (.mv (.t 159))]
@[simp] theorem l81_9:q81_9.length=15:=rfl
def p81_9:List (List Nat):=[[],[0],[1],[2],[],[4],[5],[6],[3,7],[8],[9],[9],[],[12,10,8,0,1,2,3,4,5,6,7,8,9,10,12],[11,13,0,1,2,3,4,5,6,7,8,9,10,11,12,13]]
instance:KD Try.f81.ntmps q81_9 p81_9:=⟨[[],[0],[0,1],[0,1,2],[],[4],[4,5],[4,5,6],[0,1,2,3,4,5,6,7],[0,1,2,3,4,5,6,7,8],[0,1,2,3,4,5,6,7,8,9],[0,1,2,3,4,5,6,7,8,9],[],[0,1,2,3,4,5,6,7,8,9,10,12],[0,1,2,3,4,5,6,7,8,9,10,11,12,13]],[0,1,6,7],by kernel_rfl⟩
def q81_10:List MO:=[Ma 160 (.mv (.t 7))]
@[simp] theorem l81_10:q81_10.length=1:=rfl
instance:KR Try.f81.ntmps q81_10:=⟨[0,1,6,160],by kernel_rfl⟩
def q81_11:List MO:=[Ma 161 (.mv (.t 1)),Ma 162 (.mv (.t 0)),Ma 163 (.nilck (.t 162)),Ma 164 (.faddr 0 (.t 163)),Ma 165 (.faddr 1 (.t 164)),Ma 166 (.load false 1 (.t 165)),Ma 167 (.mv (.t 0)),Ma 168 (.nilck (.t 167)),Ma 169 (.faddr 25 (.t 168)),Ma 170 (.faddr 2 (.t 169)),Ma 171 (.load false 1 (.t 170)),Ma 172 (.mv (.t 1)),Ma 173 (.nilck (.t 172)),Ma 174 (.faddr 0 (.t 173)),Ma 175 (.faddr 0 (.t 174)),Ma 176 (.faddr 5 (.t 175)),Ma 177 (.load false 1 (.t 176)),Ma 178 (.load true 6 (.t 6)),Ma 179 (.call (.c (.fn 68 [])) [(.t 161),(.t 166),(.t 171),(.t 177),(.t 178)])]
@[simp] theorem l81_11:q81_11.length=19:=rfl
def p81_11:List (List Nat):=[[],[],[1],[2],[3],[4],[],[6],[7],[8],[9],[],[11],[12],[13],[14],[15],[],[0,5,10,16,17]]
instance:KD Try.f81.ntmps q81_11 p81_11:=⟨[[],[],[1],[1,2],[1,2,3],[1,2,3,4],[],[6],[6,7],[6,7,8],[6,7,8,9],[],[11],[11,12],[11,12,13],[11,12,13,14],[11,12,13,14,15],[],[0,1,2,3,4,5,6,7,8,9,10,11,12,13,14,15,16,17]],[],by kernel_rfl⟩
def m81:MCode:=.block 0 (.seq (.reg q81_0) (.cond (.t 8) (.draw q81_1 p81_1) (.seq (.reg q81_2) (.cond (.t 50) (.draw q81_3 p81_3) (.seq (.reg q81_4) (.cond (.t 92) (.seq (.draw q81_5 p81_5) (.seq (.reg q81_6) (.cond (.t 116) (.draw q81_7 p81_7) .skip))) (.seq (.reg q81_8) (.cond (.t 136) (.seq (.draw q81_9 p81_9) (.seq (.reg q81_10) (.cond (.t 160) (.draw q81_11 p81_11) .skip))) .skip))))))))
theorem rc81:rcOf Try.prog Try.f81=some m81:=by kernel_rfl
theorem rv81:rRVs Try.prog Try.f81.results.toList=some []:=by kernel_rfl
theorem nm81:(Try.f81.name == "runtime.NumGoroutine")=false:=by kernel_rfl
def q54_0:List MO:=[Ma 4 (.mv (.t 0)),Ma 5 (.nilck (.t 4)),Ma 6 (.faddr 5 (.t 5)),Ma 7 (.load false 1 (.t 6))]
@[simp] theorem l54_0:q54_0.length=4:=rfl
instance:KR Try.f54.ntmps q54_0:=⟨[0,1,7],by kernel_rfl⟩
def q54_1:List MO:=[Ma 12 (.bin .eql (.t 7) (.c (.int .i64 0))),Ma 11 (.mv (.t 12))]
@[simp] theorem l54_1:q54_1.length=2:=rfl
instance:KR Try.f54.ntmps q54_1:=⟨[0,1,7,11],by kernel_rfl⟩
def q54_2:List MO:=[Ma 14 (.mv (.t 0)),Ma 15 (.mv (.t 1)),Ma 16 (.mv (.t 0)),Ma 17 (.nilck (.t 16)),Ma 18 (.faddr 0 (.t 17)),Ma 19 (.faddr 1 (.t 18)),Ma 20 (.load false 1 (.t 19)),Ma 21 (.call (.c (.fn 14 [])) [(.t 15),(.t 20)]),Ma 13 (.mv (.t 21)),Ma 22 (.ext (.t 13) 0),Ma 23 (.ext (.t 13) 1),Ma 24 (.nilck (.t 14)),Ma 25 (.faddr 6 (.t 24)),Mb (.store 1 (.t 25) (.t 22))]
@[simp] theorem l54_2:q54_2.length=14:=rfl
instance:KR Try.f54.ntmps q54_2:=⟨[],by kernel_rfl⟩
def q54_3:List MO:=[Ma 27 (.bin .eql (.t 7) (.c (.int .i64 1))),Ma 26 (.mv (.t 27))]
@[simp] theorem l54_3:q54_3.length=2:=rfl
instance:KR Try.f54.ntmps q54_3:=⟨[0,1,7,26],by kernel_rfl⟩
def q54_4:List MO:=[Ma 28 (.mv (.t 0)),Ma 29 (.mv (.t 1)),Ma 30 (.mv (.t 0)),Ma 31 (.nilck (.t 30)),Ma 32 (.faddr 0 (.t 31)),Ma 33 (.faddr 1 (.t 32)),Ma 34 (.load false 1 (.t 33)),Ma 35 (.call (.c (.fn 65 [])) [(.t 29),(.t 34)]),Ma 36 (.nilck (.t 28)),Ma 37 (.faddr 8 (.t 36)),Mb (.store 5 (.t 37) (.t 35))]
@[simp] theorem l54_4:q54_4.length=11:=rfl
instance:KR Try.f54.ntmps q54_4:=⟨[],by kernel_rfl⟩
def q54_5:List MO:=[Ma 39 (.bin .eql (.t 7) (.c (.int .i64 2))),Ma 38 (.mv (.t 39))]
@[simp] theorem l54_5:q54_5.length=2:=rfl
instance:KR Try.f54.ntmps q54_5:=⟨[0,1,7,38],by kernel_rfl⟩
def q54_6:List MO:=[Ma 40 (.mv (.t 0)),Ma 41 (.mv (.t 1)),Ma 42 (.call (.c (.fn 77 [])) [(.t 40),(.t 41)])]
@[simp] theorem l54_6:q54_6.length=3:=rfl
instance:KR Try.f54.ntmps q54_6:=⟨[],by kernel_rfl⟩
def q54_7:List MO:=[Ma 44 (.bin .eql (.t 7) (.c (.int .i64 3))),Ma 43 (.mv (.t 44))]
@[simp] theorem l54_7:q54_7.length=2:=rfl
instance:KR Try.f54.ntmps q54_7:=⟨[0,1,7,43],by kernel_rfl⟩
def q54_8:List MO:=[Ma 46 (.mv (.t 0)),Ma 47 (.mv (.t 1)),Ma 48 (.mv (.t 0)),Ma 49 (.nilck (.t 48)),Ma 50 (.faddr 0 (.t 49)),Ma 51 (.faddr 3 (.t 50)),Ma 52 (.load false 1 (.t 51)),Ma 53 (.call (.c (.fn 14 [])) [(.t 47),(.t 52)]),Ma 45 (.mv (.t 53)),Ma 54 (.ext (.t 45) 0),Ma 55 (.ext (.t 45) 1),Ma 56 (.nilck (.t 46)),Ma 57 (.faddr 7 (.t 56)),Mb (.store 1 (.t 57) (.t 54))]
@[simp] theorem l54_8:q54_8.length=14:=rfl
instance:KR Try.f54.ntmps q54_8:=⟨[],by kernel_rfl⟩
def q54_9:List MO:=[Ma 59 (.bin .eql (.t 7) (.c (.int .i64 4))),Ma 58 (.mv (.t 59))]
@[simp] theorem l54_9:q54_9.length=2:=rfl
instance:KR Try.f54.ntmps q54_9:=⟨[0,1,7,58],by kernel_rfl⟩
def q54_10:List MO:=[Ma 60 (.mv (.t 0)),Ma 61 (.mv (.t 1)),Ma 62 (.mv (.t 0)),Ma 63 (.nilck (.t 62)),Ma 64 (.faddr 0 (.t 63)),Ma 65 (.faddr 3 (.t 64)),Ma 66 (.load false 1 (.t 65)),Ma 67 (.call (.c (.fn 65 [])) [(.t 61),(.t 66)]),Ma 68 (.nilck (.t 60)),Ma 69 (.faddr 13 (.t 68)),Mb (.store 5 (.t 69) (.t 67))]
@[simp] theorem l54_10:q54_10.length=11:=rfl
instance:KR Try.f54.ntmps q54_10:=⟨[],by kernel_rfl⟩
def q54_11:List MO:=[Ma 71 (.bin .eql (.t 7) (.c (.int .i64 5))),Ma 70 (.mv (.t 71))]
@[simp] theorem l54_11:q54_11.length=2:=rfl
instance:KR Try.f54.ntmps q54_11:=⟨[0,1,7,70],by kernel_rfl⟩
def q54_12:List MO:=[Ma 72 (.mv (.t 0)),Ma 73 (.mv (.t 1)),Ma 74 (.call (.c (.fn 78 [])) [(.t 72),(.t 73)])]
@[simp] theorem l54_12:q54_12.length=3:=rfl
instance:KR Try.f54.ntmps q54_12:=⟨[],by kernel_rfl⟩
def q54_13:List MO:=[Ma 76 (.bin .eql (.t 7) (.c (.int .i64 6))),Ma 75 (.mv (.t 76))]
@[simp] theorem l54_13:q54_13.length=2:=rfl
instance:KR Try.f54.ntmps q54_13:=⟨[0,1,7,75],by kernel_rfl⟩
def q54_14:List MO:=[Ma 77 (.bin .eql (.t 7) (.c (.int .i64 8))),Ma 75 (.mv (.t 77))]
@[simp] theorem l54_14:q54_14.length=2:=rfl
instance:KR Try.f54.ntmps q54_14:=⟨[0,1,7,75],by kernel_rfl⟩
def q54_15:List MO:=[Ma 78 (.mv (.t 0)),Ma 79 (.mv (.t 1)),Ma 80 (.call (.c (.fn 79 [])) [(.t 78),(.t 79)])]
@[simp] theorem l54_15:q54_15.length=3:=rfl
instance:KR Try.f54.ntmps q54_15:=⟨[],by kernel_rfl⟩
def q54_16:List MO:=[Ma 82 (.bin .eql (.t 7) (.c (.int .i64 7))),Ma 81 (.mv (.t 82))]
@[simp] theorem l54_16:q54_16.length=2:=rfl
instance:KR Try.f54.ntmps q54_16:=⟨[0,1,7,81],by kernel_rfl⟩
def q54_17:List MO:=[Ma 83 (.bin .eql (.t 7) (.c (.int .i64 9))),Ma 81 (.mv (.t 83))]
@[simp] theorem l54_17:q54_17.length=2:=rfl
instance:KR Try.f54.ntmps q54_17:=⟨[0,1,81],by kernel_rfl⟩
def q54_18:List MO:=[Ma 84 (.mv (.t 0)),Ma 85 (.mv (.t 1)),Ma 86 (.call (.c (.fn 80 [])) [(.t 84),(.t 85)])]
@[simp] theorem l54_18:q54_18.length=3:=rfl
instance:KR Try.f54.ntmps q54_18:=⟨[],by kernel_rfl⟩
def q54_19:List MO:=[Ma 8 (.mv (.t 0)),Ma 9 (.mv (.t 1)),Ma 10 (.call (.c (.fn 81 [])) [(.t 8),(.t 9)])]
@[simp] theorem l54_19:q54_19.length=3:=rfl
instance:KR Try.f54.ntmps q54_19:=⟨[],by kernel_rfl⟩
def m54:MCode:=.seq (.reg q54_0) (.block 0 (.seq (.reg q54_1) (.cond (.t 11) (.reg q54_2) (.seq (.reg q54_3) (.cond (.t 26) (.reg q54_4) (.seq (.reg q54_5) (.cond (.t 38) (.reg q54_6) (.seq (.reg q54_7) (.cond (.t 43) (.reg q54_8) (.seq (.reg q54_9) (.cond (.t 58) (.reg q54_10) (.seq (.reg q54_11) (.cond (.t 70) (.reg q54_12) (.seq (.seq (.reg q54_13) (.cond (.t 75) .skip (.reg q54_14))) (.cond (.t 75) (.reg q54_15) (.seq (.seq (.reg q54_16) (.cond (.t 81) .skip (.reg q54_17))) (.cond (.t 81) (.reg q54_18) (.reg q54_19))))))))))))))))))
theorem rc54:rcOf Try.prog Try.f54=some m54:=by kernel_rfl
theorem rv54:rRVs Try.prog Try.f54.results.toList=some []:=by kernel_rfl
theorem nm54:(Try.f54.name == "runtime.NumGoroutine")=false:=by kernel_rfl
def q12_0:List MO:=[Ma 4 (.mv (.t 0)),Ma 5 (.call (.c (.fn 13 [])) [(.t 4)]),Ma 6 (.mv (.t 5)),Mg 7 (.mv (.t 1)) 6 false,Mg 8 (.eq false .ptr (.t 7) (.c (.raw (.pointer none)))) 6 false,Ma 9 (.pick (.t 6) (.c (.bool true)) (.t 8))]
@[simp] theorem l12_0:q12_0.length=6:=rfl
instance:KR Try.f12.ntmps q12_0:=⟨[0,1,9],by kernel_rfl⟩
def q12_1:List MO:=[Ma 10 (.mv (.t 0)),Ma 11 (.mv (.t 1)),Ma 12 (.call (.c (.fn 53 [])) [(.t 10),(.t 11)]),Ma 13 (.un .not (.t 12))]
@[simp] theorem l12_1:q12_1.length=4:=rfl
instance:KR Try.f12.ntmps q12_1:=⟨[0,1,13],by kernel_rfl⟩
def q12_2:List MO:=[Ma 14 (.mv (.t 0)),Ma 15 (.mv (.t 1)),Ma 16 (.call (.c (.fn 54 [])) [(.t 14),(.t 15)])]
@[simp] theorem l12_2:q12_2.length=3:=rfl
instance:KR Try.f12.ntmps q12_2:=⟨[0],by kernel_rfl⟩
def q12_3:List MO:=[Ma 17 (.mv (.t 0)),Ma 18 (.nilck (.t 17)),Ma 19 (.faddr 5 (.t 18)),Ma 20 (.load false 1 (.t 19)),Ma 21 (.bin .add (.t 20) (.c (.int .i64 1))),Ma 22 (.nilck (.t 17)),Ma 23 (.faddr 5 (.t 22)),Mb (.store 1 (.t 23) (.t 21))]
@[simp] theorem l12_3:q12_3.length=8:=rfl
instance:KR Try.f12.ntmps q12_3:=⟨[],by kernel_rfl⟩
def m12:MCode:=.seq (.seq (.reg q12_0) (.cond (.t 9) .ret .skip)) (.seq (.seq (.reg q12_1) (.cond (.t 13) (.reg q12_2) .skip)) (.reg q12_3))
theorem rc12:rcOf Try.prog Try.f12=some m12:=by kernel_rfl
theorem rv12:rRVs Try.prog Try.f12.results.toList=some []:=by kernel_rfl
theorem nm12:(Try.f12.name == "runtime.NumGoroutine")=false:=by kernel_rfl
def q99_0:List MO:=[Ma 6 (.alloc [(.int .i64 0),(.int .i64 0),(.int .i64 0),(.int .i64 0),(.int .i64 0),(.int .i64 0)])]
@[simp] theorem l99_0:q99_0.length=1:=rfl
instance:KR Try.f99.ntmps q99_0:=⟨[0,1,2,6],by kernel_rfl⟩
def q99_1:List MO:=[Ma 7 (.mv (.t 0)),Ma 8 (.nilck (.t 7)),Ma 9 (.faddr 21 (.t 8)),Ma 10 (.faddr 0 (.t 9)),Ma 11 (.load false 1 (.t 10)),Ma 12 (.mv (.t 0)),Ma 13 (.nilck (.t 12)),Ma 14 (.faddr 21 (.t 13)),Ma 15 (.faddr 1 (.t 14)),Ma 16 (.load false 1 (.t 15)),Ma 17 (.mv (.t 0)),Ma 18 (.nilck (.t 17)),Ma 19 (.faddr 23 (.t 18)),Ma 20 (.load false 1 (.t 19)),Ma 21 (.mv (.t 1)),Ma 22 (.mv (.t 2)),Ma 23 (.build [(.int .i64 0),(.int .i64 0),(.int .i64 0),(.int .i64 0),(.int .i64 0),(.int .i64 0)] [(0,(1,(.c (.int .i64 1)))),(1,(1,(.t 11))),(2,(1,(.t 16))),(3,(1,(.t 20))),(4,(1,(.t 21))),(5,(1,(.t 22)))]),Mb (.store 6 (.t 6) (.t 23))]
@[simp] theorem l99_1:q99_1.length=18:=rfl
def p99_1:List (List Nat):=[[],[0],[1],[2],[3],[],[5],[6],[7],[8],[],[10],[11],[12],[],[],[4,9,13,14,15],[16,0,1,2,3,4,5,6,7,8,9,10,11,12,13,14,15,16]]
instance:KD Try.f99.ntmps q99_1 p99_1:=⟨[[],[0],[0,1],[0,1,2],[0,1,2,3],[],[5],[5,6],[5,6,7],[5,6,7,8],[],[10],[10,11],[10,11,12],[],[],[0,1,2,3,4,5,6,7,8,9,10,11,12,13,14,15],[0,1,2,3,4,5,6,7,8,9,10,11,12,13,14,15,16]],[6],by kernel_rfl⟩
def m99:MCode:=.seq (.reg q99_0) (.seq (.draw q99_1 p99_1) .ret)
theorem rc99:rcOf Try.prog Try.f99=some m99:=by kernel_rfl
theorem rv99:rRVs Try.prog Try.f99.results.toList=some [(.c true 6 6)]:=by kernel_rfl
theorem nm99:(Try.f99.name == "runtime.NumGoroutine")=false:=by kernel_rfl
def q89_0:List MO:=[Ma 2 (.box (.t 0)),Ma 3 (.box (.t 1)),Ma 4 (.mv (.c (.int .i64 0)))]
@[simp] theorem l89_0:q89_0.length=3:=rfl
instance:KR Try.f89.ntmps q89_0:=⟨[2,3],by kernel_rfl⟩
def q89_1:List MO:=[Ma 5 (.load true 7 (.t 2)),Ma 6 (.faddr 0 (.t 3)),Ma 7 (.load false 1 (.t 6)),Ma 8 (.load true 7 (.t 2)),Ma 9 (.faddr 2 (.t 3)),Ma 10 (.load false 1 (.t 9)),Ma 11 (.call (.c (.fn 102 [])) [(.t 8),(.t 10)]),Ma 12 (.call (.c (.fn 101 [])) [(.t 5),(.t 7),(.t 11)]),Ma 4 (.mv (.t 12))]
@[simp] theorem l89_1:q89_1.length=9:=rfl
def p89_1:List (List Nat):=[[],[],[1],[],[],[4],[3,5],[0,2,6,6],[7,7,0,1,2,3,4,5,6,7]]
instance:KD Try.f89.ntmps q89_1 p89_1:=⟨[[],[],[1],[],[],[4],[3,4,5],[0,1,2,3,4,5,6],[0,1,2,3,4,5,6,7]],[4],by kernel_rfl⟩
def m89:MCode:=.seq (.reg q89_0) (.seq (.draw q89_1 p89_1) .ret)
theorem rc89:rcOf Try.prog Try.f89=some m89:=by kernel_rfl
theorem rv89:rRVs Try.prog Try.f89.results.toList=some [(.t 4)]:=by kernel_rfl
theorem nm89:(Try.f89.name == "runtime.NumGoroutine")=false:=by kernel_rfl
def q9_0:List MO:=[Ma 2 (.box (.t 0)),Ma 4 (.mv (.c (.raw (.pointer none)))),Ma 5 (.mv (.c (.raw (.pointer none)))),Ma 6 (.mv (.c (.bool false)))]
@[simp] theorem l9_0:q9_0.length=4:=rfl
instance:KR Try.f9.ntmps q9_0:=⟨[1,2],by kernel_rfl⟩
def q9_1:List MO:=[Ma 19 (.load true 7 (.t 2)),Ma 20 (.call (.c (.fn 42 [])) [(.t 19)]),Ma 18 (.mv (.t 20)),Ma 21 (.ext (.t 18) 0),Ma 22 (.ext (.t 18) 1),Ma 7 (.alloc [(.int .i64 0),(.int .i64 0),(.int .i64 0),(.int .i64 0),(.int .i64 0),(.int .i64 0),(.int .i64 0)]),Mb (.store 7 (.t 7) (.t 21)),Ma 8 (.mv (.t 22))]
@[simp] theorem l9_1:q9_1.length=8:=rfl
instance:KR Try.f9.ntmps q9_1:=⟨[1,2,7,8],by kernel_rfl⟩
def q9_2:List MO:=[Ma 23 (.load true 7 (.t 2)),Ma 24 (.call (.c (.fn 27 [])) [(.t 23)]),Ma 25 (.un .not (.t 24)),Ma 26 (.mv (.t 25)),Mg 27 (.mv (.t 8)) 26 false,Mg 28 (.eq true .iface (.t 27) (.c (.raw .nilIface))) 26 false,Ma 29 (.pick (.t 26) (.c (.bool true)) (.t 28))]
@[simp] theorem l9_2:q9_2.length=7:=rfl
instance:KR Try.f9.ntmps q9_2:=⟨[1,2,7,29],by kernel_rfl⟩
def q9_3:List MO:=[Ma 4 (.mv (.c (.raw (.pointer none)))),Ma 5 (.mv (.c (.raw (.pointer none)))),Ma 6 (.mv (.c (.bool false)))]
@[simp] theorem l9_3:q9_3.length=3:=rfl
instance:KR Try.f9.ntmps q9_3:=⟨[4,5,6],by kernel_rfl⟩
def q9_4:List MO:=[Ma 31 (.load true 7 (.t 7)),Ma 32 (.call (.c (.fn 43 [])) [(.t 31)]),Ma 30 (.mv (.t 32)),Ma 33 (.ext (.t 30) 0),Ma 34 (.ext (.t 30) 1),Ma 9 (.mv (.t 33)),Ma 10 (.mv (.t 34))]
@[simp] theorem l9_4:q9_4.length=7:=rfl
instance:KR Try.f9.ntmps q9_4:=⟨[1,2,7,9,10],by kernel_rfl⟩
def q9_5:List MO:=[Ma 35 (.mv (.t 9)),Ma 36 (.eq false .ptr (.t 35) (.c (.raw (.pointer none)))),Ma 37 (.mv (.t 36)),Mg 38 (.mv (.t 10)) 37 false,Mg 39 (.eq true .iface (.t 38) (.c (.raw .nilIface))) 37 false,Ma 40 (.pick (.t 37) (.c (.bool true)) (.t 39))]
@[simp] theorem l9_5:q9_5.length=6:=rfl
instance:KR Try.f9.ntmps q9_5:=⟨[1,2,7,9,40],by kernel_rfl⟩
def q9_6:List MO:=[Ma 4 (.mv (.c (.raw (.pointer none)))),Ma 5 (.mv (.c (.raw (.pointer none)))),Ma 6 (.mv (.c (.bool false)))]
@[simp] theorem l9_6:q9_6.length=3:=rfl
instance:KR Try.f9.ntmps q9_6:=⟨[4,5,6],by kernel_rfl⟩
def q9_7:List MO:=[Ma 41 (.load true 7 (.t 2)),Ma 42 (.call (.c (.fn 44 [])) [(.t 41)]),Ma 11 (.mv (.t 42))]
@[simp] theorem l9_7:q9_7.length=3:=rfl
instance:KR Try.f9.ntmps q9_7:=⟨[1,2,7,9,11],by kernel_rfl⟩
def q9_8:List MO:=[Ma 43 (.mv (.t 1)),Ma 44 (.len (.t 43)),Ma 45 (.mv (.c (.int .i64 0)))]
@[simp] theorem l9_8:q9_8.length=3:=rfl
instance:KR Try.f9.ntmps q9_8:=⟨[2,7,9,11,43,44,45],by kernel_rfl⟩
def q9_9:List MO:=[Ma 46 (.bin .lss (.t 45) (.t 44))]
@[simp] theorem l9_9:q9_9.length=1:=rfl
instance:KR Try.f9.ntmps q9_9:=⟨[2,7,9,11,43,44,45,46],by kernel_rfl⟩
def q9_10:List MO:=[Ma 47 (.mv (.t 45)),Ma 48 (.iaddr 10 (.t 43) (.t 45)),Ma 49 (.load true 10 (.t 48)),Ma 13 (.alloc [(.int .i64 0),(.bool false),(.int .i64 0),(.int .i64 0),(.int .i64 0),(.int .i64 0),(.int .i64 0),(.int .i64 0),(.int .i64 0),(.int .i64 0)]),Ma 12 (.mv (.t 47)),Mb (.store 10 (.t 13) (.t 49))]
@[simp] theorem l9_10:q9_10.length=6:=rfl
instance:KR Try.f9.ntmps q9_10:=⟨[2,7,9,11,12,13,43,44,45],by kernel_rfl⟩
def q9_11:List MO:=[Ma 51 (.faddr 0 (.t 13)),Ma 52 (.load true 5 (.t 51)),Ma 53 (.call (.c (.fn 45 [])) [(.t 52)]),Ma 50 (.mv (.t 53)),Ma 54 (.ext (.t 50) 0),Ma 55 (.ext (.t 50) 1),Ma 14 (.mv (.t 54)),Ma 15 (.mv (.t 55))]
@[simp] theorem l9_11:q9_11.length=8:=rfl
instance:KR Try.f9.ntmps q9_11:=⟨[2,7,9,11,12,13,14,15,43,44,45],by kernel_rfl⟩
def q9_12:List MO:=[Ma 57 (.faddr 5 (.t 13)),Ma 58 (.load true 5 (.t 57)),Ma 59 (.call (.c (.fn 46 [])) [(.t 58)]),Ma 56 (.mv (.t 59)),Ma 60 (.ext (.t 56) 0),Ma 61 (.ext (.t 56) 1),Ma 16 (.mv (.t 60)),Ma 17 (.mv (.t 61))]
@[simp] theorem l9_12:q9_12.length=8:=rfl
instance:KR Try.f9.ntmps q9_12:=⟨[2,7,9,11,12,13,14,15,16,17,43,44,45],by kernel_rfl⟩
def q9_13:List MO:=[Ma 62 (.mv (.t 12)),Ma 63 (.mv (.t 11)),Ma 64 (.nilck (.t 63)),Ma 65 (.faddr 7 (.t 64)),Ma 66 (.load false 1 (.t 65)),Ma 67 (.len (.t 66)),Ma 68 (.bin .geq (.t 62) (.t 67)),Ma 69 (.mv (.t 68)),Mg 70 (.mv (.t 15)) 69 false,Mg 71 (.bin .neq (.t 70) (.c (.int .i64 0))) 69 false,Ma 72 (.pick (.t 69) (.c (.bool true)) (.t 71)),Ma 73 (.mv (.t 72)),Mg 74 (.mv (.t 17)) 73 false,Mg 75 (.bin .neq (.t 74) (.c (.int .i64 0))) 73 false,Ma 76 (.pick (.t 73) (.c (.bool true)) (.t 75)),Ma 77 (.mv (.t 76)),Mg 78 (.faddr 0 (.t 13)) 77 false,Mg 79 (.faddr 2 (.t 78)) 77 false,Mg 80 (.load false 1 (.t 79)) 77 false,Mg 81 (.bin .lss (.t 80) (.c (.int .i64 1))) 77 false,Ma 82 (.pick (.t 77) (.c (.bool true)) (.t 81)),Ma 83 (.mv (.t 82)),Mg 84 (.faddr 0 (.t 13)) 83 false,Mg 85 (.faddr 2 (.t 84)) 83 false,Mg 86 (.load false 1 (.t 85)) 83 false,Mg 87 (.faddr 6 (.t 2)) 83 false,Mg 88 (.load false 1 (.t 87)) 83 false,Mg 89 (.bin .gtr (.t 86) (.t 88)) 83 false,Ma 90 (.pick (.t 83) (.c (.bool true)) (.t 89)),Ma 91 (.mv (.t 90)),Mg 92 (.faddr 0 (.t 13)) 91 false,Mg 93 (.faddr 3 (.t 92)) 91 false,Mg 94 (.load false 1 (.t 93)) 91 false,Mg 95 (.bin .lss (.t 94) (.c (.int .i64 1))) 91 false,Ma 96 (.pick (.t 91) (.c (.bool true)) (.t 95)),Ma 97 (.mv (.t 96)),Mg 98 (.faddr 0 (.t 13)) 97 false,Mg 99 (.faddr 4 (.t 98)) 97 false,Mg 100 (.load false 1 (.t 99)) 97 false,Mg 101 (.faddr 5 (.t 2)) 97 false,Mg 102 (.load false 1 (.t 101)) 97 false,Mg 103 (.bin .geq (.t 100) (.t 102)) 97 false,Ma 104 (.pick (.t 97) (.c (.bool true)) (.t 103)),Ma 105 (.mv (.t 104)),Mg 106 (.faddr 0 (.t 13)) 105 false,Mg 107 (.faddr 0 (.t 106)) 105 false,Mg 108 (.load false 1 (.t 107)) 105 false,Mg 109 (.call (.c (.fn 47 [])) [(.t 108)]) 105 false,Mg 110 (.un .not (.t 109)) 105 false,Mg 111 (.mv (.t 110)) 105 false,Mg 112 (.faddr 0 (.t 13)) 111 true,Mg 113 (.faddr 0 (.t 112)) 111 true,Mg 114 (.load false 1 (.t 113)) 111 true,Mg 115 (.bin .lss (.t 114) (.c (.int .i64 5))) 111 true,Mg 116 (.pick (.t 111) (.t 115) (.c (.bool false))) 105 false,Ma 117 (.pick (.t 105) (.c (.bool true)) (.t 116)),Ma 118 (.mv (.t 117)),Mg 119 (.faddr 0 (.t 13)) 118 false,Mg 120 (.faddr 1 (.t 119)) 118 false,Mg 121 (.load false 1 (.t 120)) 118 false,Ma 122 (.pick (.t 118) (.c (.bool true)) (.t 121)),Ma 123 (.mv (.t 122)),Mg 124 (.load true 7 (.t 2)) 123 false,Mg 125 (.faddr 5 (.t 13)) 123 false,Mg 126 (.load true 5 (.t 125)) 123 false,Mg 127 (.faddr 0 (.t 13)) 123 false,Mg 128 (.faddr 3 (.t 127)) 123 false,Mg 129 (.load false 1 (.t 128)) 123 false,Mg 130 (.faddr 5 (.t 13)) 123 false,Mg 131 (.faddr 3 (.t 130)) 123 false,Mg 132 (.load false 1 (.t 131)) 123 false,Mg 133 (.mx [(.t 129),(.t 132)]) 123 false,Mg 134 (.call (.c (.fn 48 [])) [(.t 124),(.t 126),(.t 133),(.c (.int .i64 0))]) 123 false,Mg 135 (.bin .neq (.t 134) (.c (.int .i64 0))) 123 false,Ma 136 (.pick (.t 123) (.c (.bool true)) (.t 135))]
@[simp] theorem l9_13:q9_13.length=75:=rfl
def q9_14:List MO:=[Ma 4 (.mv (.c (.raw (.pointer none)))),Ma 5 (.mv (.c (.raw (.pointer none)))),Ma 6 (.mv (.c (.bool false)))]
@[simp] theorem l9_14:q9_14.length=3:=rfl
instance:KR Try.f9.ntmps q9_14:=⟨[4,5,6],by kernel_rfl⟩
def q9_15:List MO:=[Ma 137 (.mv (.t 9)),Ma 138 (.nilck (.t 137)),Ma 139 (.faddr 7 (.t 138)),Ma 140 (.load false 1 (.t 139)),Ma 141 (.load true 7 (.t 7)),Ma 142 (.mv (.t 12)),Ma 143 (.call (.c (.fn 50 [])) [(.t 141),(.t 142)]),Ma 144 (.mv (.t 14)),Ma 145 (.call (.c (.fn 49 [])) [(.t 140),(.t 143),(.t 144)])]
@[simp] theorem l9_15:q9_15.length=9:=rfl
def p9_15:List (List Nat):=[[],[0],[1],[2],[],[],[4,5],[],[3,6,7,6]]
instance:KD Try.f9.ntmps q9_15 p9_15:=⟨[[],[0],[0,1],[0,1,2],[],[],[4,5],[],[0,1,2,3,4,5,6,7]],[2,7,9,11,12,13,16,43,44,45],by kernel_rfl⟩
def q9_16:List MO:=[Ma 146 (.mv (.t 9)),Ma 147 (.nilck (.t 146)),Ma 148 (.faddr 7 (.t 147)),Ma 149 (.load false 1 (.t 148)),Ma 150 (.load true 7 (.t 7)),Ma 151 (.mv (.t 12)),Ma 152 (.call (.c (.fn 51 [])) [(.t 150),(.t 151)]),Ma 153 (.mv (.t 16)),Ma 154 (.call (.c (.fn 49 [])) [(.t 149),(.t 152),(.t 153)])]
@[simp] theorem l9_16:q9_16.length=9:=rfl
def p9_16:List (List Nat):=[[],[0],[1],[2],[],[],[4,5],[],[3,6,7,6]]
instance:KD Try.f9.ntmps q9_16 p9_16:=⟨[[],[0],[0,1],[0,1,2],[],[],[4,5],[],[0,1,2,3,4,5,6,7]],[2,7,9,11,12,13,43,44,45],by kernel_rfl⟩
def q9_17:List MO:=[Ma 155 (.mv (.t 11)),Ma 156 (.nilck (.t 155)),Ma 157 (.faddr 7 (.t 156)),Ma 158 (.load false 1 (.t 157)),Ma 159 (.mv (.t 12)),Ma 160 (.mv (.t 11)),Ma 161 (.nilck (.t 160)),Ma 162 (.faddr 8 (.t 161)),Ma 163 (.load false 1 (.t 162)),Ma 164 (.mv (.t 12)),Ma 165 (.faddr 0 (.t 13)),Ma 166 (.load true 5 (.t 165)),Ma 167 (.faddr 5 (.t 13)),Ma 168 (.load true 5 (.t 167)),Ma 169 (.iaddr 5 (.t 158) (.t 159)),Mb (.store 5 (.t 169) (.t 166)),Ma 170 (.iaddr 5 (.t 163) (.t 164)),Mb (.store 5 (.t 170) (.t 168))]
@[simp] theorem l9_17:q9_17.length=18:=rfl
def p9_17:List (List Nat):=[[],[0],[1],[2],[],[],[5],[6],[7],[],[],[10],[],[12],[3,4,0,1,2,3,4,8,10,11],[14,11,0,1,2,3,4,8,10,11],[8,9,0,1,2,3,4,5,6,7,8,9,10,11,12,13,14,15],[16,13,15,0,1,2,3,4,5,6,7,8,9,10,11,12,13,14,15]]
instance:KD Try.f9.ntmps q9_17 p9_17:=⟨[[],[0],[0,1],[0,1,2],[],[],[5],[5,6],[5,6,7],[],[],[10],[],[12],[0,1,2,3,4,5,6,7,8,10,11],[0,1,2,3,4,5,6,7,8,10,11,14],[0,1,2,3,4,5,6,7,8,9,10,11,12,13,14,15],[0,1,2,3,4,5,6,7,8,9,10,11,12,13,14,15,16]],[2,7,9,11,43,44,45],by kernel_rfl⟩
def q9_18:List MO:=[Ma 171 (.bin .add (.t 45) (.c (.int .i64 1))),Ma 45 (.mv (.t 171))]
@[simp] theorem l9_18:q9_18.length=2:=rfl
instance:KR Try.f9.ntmps q9_18:=⟨[2,7,9,11,43,44,45],by kernel_rfl⟩
def q9_19:List MO:=[Ma 172 (.mv (.t 9)),Ma 173 (.mv (.t 11)),Ma 4 (.mv (.t 172)),Ma 5 (.mv (.t 173)),Ma 6 (.mv (.c (.bool true)))]
@[simp] theorem l9_19:q9_19.length=5:=rfl
instance:KR Try.f9.ntmps q9_19:=⟨[4,5,6],by kernel_rfl⟩
def m9:MCode:=.seq (.reg q9_0) (.seq (.reg q9_1) (.seq (.seq (.reg q9_2) (.cond (.t 29) (.seq (.reg q9_3) .ret) .skip)) (.seq (.reg q9_4) (.seq (.seq (.reg q9_5) (.cond (.t 40) (.seq (.reg q9_6) .ret) .skip)) (.seq (.reg q9_7) (.seq (.seq (.reg q9_8) (.block 0 (.loop (.seq (.reg q9_9) (.seq (.cond (.t 46) .skip (.exit 0)) (.seq (.block 1 (.seq (.reg q9_10) (.seq (.reg q9_11) (.seq (.reg q9_12) (.seq (.seq (.reg q9_13) (.cond (.t 136) (.seq (.reg q9_14) .ret) .skip)) (.seq (.draw q9_15 p9_15) (.seq (.draw q9_16 p9_16) (.draw q9_17 p9_17)))))))) (.reg q9_18))))))) (.seq (.reg q9_19) .ret)))))))
theorem rc9:rcOf Try.prog Try.f9=some m9:=by kernel_rfl
theorem rv9:rRVs Try.prog Try.f9.results.toList=some [(.t 4),(.t 5),(.t 6)]:=by kernel_rfl
theorem nm9:(Try.f9.name == "runtime.NumGoroutine")=false:=by kernel_rfl
def q10_0:List MO:=[Ma 0 (.mv (.c (.bool false)))]
@[simp] theorem l10_0:q10_0.length=1:=rfl
instance:KR Try.f10.ntmps q10_0:=⟨[],by kernel_rfl⟩
def q10_1:List MO:=[Ma 10 (.call (.c (.fn 52 [])) []),Ma 9 (.mv (.t 10)),Ma 11 (.ext (.t 9) 0),Ma 12 (.ext (.t 9) 1),Ma 1 (.alloc [(.int .i64 0),(.int .i64 0),(.int .i64 0),(.int .i64 0),(.int .i64 0),(.int .i64 0),(.int .i64 0)]),Mb (.store 7 (.t 1) (.t 11)),Ma 2 (.mv (.t 12))]
@[simp] theorem l10_1:q10_1.length=7:=rfl
instance:KR Try.f10.ntmps q10_1:=⟨[1,2],by kernel_rfl⟩
def q10_2:List MO:=[Ma 14 (.load true 7 (.t 1)),Ma 15 (.mv (.t 2)),Ma 16 (.call (.c (.fn 9 [])) [(.t 14),(.t 15)]),Ma 13 (.mv (.t 16)),Ma 17 (.ext (.t 13) 0),Ma 18 (.ext (.t 13) 1),Ma 19 (.ext (.t 13) 2),Ma 3 (.mv (.t 17)),Ma 4 (.mv (.t 18)),Ma 5 (.mv (.t 19))]
@[simp] theorem l10_2:q10_2.length=10:=rfl
instance:KR Try.f10.ntmps q10_2:=⟨[3,5],by kernel_rfl⟩
def q10_3:List MO:=[Ma 20 (.mv (.t 5)),Ma 21 (.un .not (.t 20))]
@[simp] theorem l10_3:q10_3.length=2:=rfl
instance:KR Try.f10.ntmps q10_3:=⟨[3,21],by kernel_rfl⟩
def q10_4:List MO:=[Ma 0 (.mv (.c (.bool false)))]
@[simp] theorem l10_4:q10_4.length=1:=rfl
instance:KR Try.f10.ntmps q10_4:=⟨[0],by kernel_rfl⟩
def q10_5:List MO:=[Ma 22 (.build [(.int .i64 0),(.int .i64 0),(.int .i64 0),(.int .i64 0),(.int .i64 0)] [(0,(1,(.c (.int .i64 3)))),(1,(1,(.c (.int .i64 0)))),(3,(1,(.c (.int .i64 1))))]),Ma 23 (.call (.c (.fn 11 [])) [(.t 22)]),Ma 6 (.mv (.t 23))]
@[simp] theorem l10_5:q10_5.length=3:=rfl
instance:KR Try.f10.ntmps q10_5:=⟨[3,6],by kernel_rfl⟩
def q10_6:List MO:=[Ma 24 (.mv (.c (.int .i64 0)))]
@[simp] theorem l10_6:q10_6.length=1:=rfl
instance:KR Try.f10.ntmps q10_6:=⟨[3,6,24],by kernel_rfl⟩
def q10_7:List MO:=[Ma 25 (.bin .lss (.t 24) (.c (.int .i64 14)))]
@[simp] theorem l10_7:q10_7.length=1:=rfl
instance:KR Try.f10.ntmps q10_7:=⟨[3,6,24,25],by kernel_rfl⟩
def q10_8:List MO:=[Ma 26 (.mv (.t 6)),Ma 27 (.mv (.t 3)),Ma 28 (.call (.c (.fn 12 [])) [(.t 26),(.t 27)])]
@[simp] theorem l10_8:q10_8.length=3:=rfl
instance:KR Try.f10.ntmps q10_8:=⟨[3,6,24],by kernel_rfl⟩
def q10_9:List MO:=[Ma 29 (.bin .add (.t 24) (.c (.int .i64 1))),Ma 24 (.mv (.t 29))]
@[simp] theorem l10_9:q10_9.length=2:=rfl
instance:KR Try.f10.ntmps q10_9:=⟨[3,6,24],by kernel_rfl⟩
def q10_10:List MO:=[Ma 31 (.mv (.t 3)),Ma 32 (.call (.c (.fn 14 [])) [(.t 31),(.c (.int .i64 1))]),Ma 30 (.mv (.t 32)),Ma 33 (.ext (.t 30) 0),Ma 34 (.ext (.t 30) 1),Ma 8 (.alloc [(.int .i64 0),(.bool false),(.int .i64 0),(.int .i64 0),(.int .i64 0)]),Ma 7 (.mv (.t 33)),Mb (.store 5 (.t 8) (.t 34))]
@[simp] theorem l10_10:q10_10.length=8:=rfl
instance:KR Try.f10.ntmps q10_10:=⟨[3,6,8],by kernel_rfl⟩
def q10_11:List MO:=[Ma 35 (.mv (.t 6)),Ma 36 (.call (.c (.fn 15 [])) [(.t 35)]),Ma 37 (.mv (.t 36)),Mg 38 (.mv (.t 6)) 37 true,Mg 39 (.call (.c (.fn 13 [])) [(.t 38)]) 37 true,Ma 40 (.pick (.t 37) (.t 39) (.c (.bool false))),Ma 41 (.mv (.t 40)),Mg 42 (.faddr 0 (.t 8)) 41 true,Mg 43 (.load false 1 (.t 42)) 41 true,Mg 44 (.bin .eql (.t 43) (.c (.int .i64 5))) 41 true,Ma 45 (.pick (.t 41) (.t 44) (.c (.bool false))),Ma 46 (.mv (.t 45)),Mg 47 (.mv (.t 3)) 46 true,Mg 48 (.nilck (.t 47)) 46 true,Mg 49 (.faddr 9 (.t 48)) 46 true,Mg 50 (.load false 1 (.t 49)) 46 true,Mg 51 (.len (.t 50)) 46 true,Mg 52 (.bin .eql (.t 51) (.c (.int .i64 1))) 46 true,Ma 53 (.pick (.t 46) (.t 52) (.c (.bool false))),Ma 54 (.mv (.t 53)),Mg 55 (.mv (.t 3)) 54 true,Mg 56 (.nilck (.t 55)) 54 true,Mg 57 (.faddr 9 (.t 56)) 54 true,Mg 58 (.load false 1 (.t 57)) 54 true,Mg 59 (.iaddr 14 (.t 58) (.c (.int .i64 0))) 54 true,Mg 60 (.faddr 10 (.t 59)) 54 true,Mg 61 (.load false 1 (.t 60)) 54 true,Mg 62 (.bin .eql (.t 61) (.c (.int .i64 3))) 54 true,Ma 63 (.pick (.t 54) (.t 62) (.c (.bool false))),Ma 64 (.mv (.t 63)),Mg 65 (.mv (.t 3)) 64 true,Mg 66 (.nilck (.t 65)) 64 true,Mg 67 (.faddr 9 (.t 66)) 64 true,Mg 68 (.load false 1 (.t 67)) 64 true,Mg 69 (.iaddr 14 (.t 68) (.c (.int .i64 0))) 64 true,Mg 70 (.faddr 11 (.t 69)) 64 true,Mg 71 (.load false 1 (.t 70)) 64 true,Mg 72 (.bin .eql (.t 71) (.c (.int .i64 9))) 64 true,Ma 73 (.pick (.t 64) (.t 72) (.c (.bool false))),Ma 0 (.mv (.t 73))]
@[simp] theorem l10_11:q10_11.length=40:=rfl
instance:KR Try.f10.ntmps q10_11:=⟨[0],by kernel_rfl⟩
def m10:MCode:=.seq (.reg q10_0) (.seq (.reg q10_1) (.seq (.reg q10_2) (.seq (.seq (.reg q10_3) (.cond (.t 21) (.seq (.reg q10_4) .ret) .skip)) (.seq (.reg q10_5) (.seq (.seq (.reg q10_6) (.block 0 (.loop (.seq (.reg q10_7) (.seq (.cond (.t 25) .skip (.exit 0)) (.seq (.block 1 (.reg q10_8)) (.reg q10_9))))))) (.seq (.reg q10_10) (.seq (.reg q10_11) .ret)))))))
theorem rc10:rcOf Try.prog Try.f10=some m10:=by kernel_rfl
theorem rv10:rRVs Try.prog Try.f10.results.toList=some [(.t 0)]:=by kernel_rfl
theorem nm10:(Try.f10.name == "runtime.NumGoroutine")=false:=by kernel_rfl
def q52_0:List MO:=[Ma 0 (.alloc [(.int .i64 0),(.int .i64 0),(.int .i64 0),(.int .i64 0),(.int .i64 0),(.int .i64 0),(.int .i64 0)]),Ma 1 (.mv (.c .nsl))]
@[simp] theorem l52_0:q52_0.length=2:=rfl
instance:KR Try.f52.ntmps q52_0:=⟨[0],by kernel_rfl⟩
def q52_1:List MO:=[Ma 5 (.build [(.int .i64 0),(.int .i64 0),(.int .i64 0),(.int .i64 0),(.int .i64 0),(.int .i64 0),(.int .i64 0)] [(0,(1,(.c (.int .i64 2)))),(1,(1,(.c (.int .i64 1)))),(2,(1,(.c (.int .i64 1)))),(3,(1,(.c (.int .i64 1)))),(5,(1,(.c (.int .i64 2)))),(6,(1,(.c (.int .i64 1))))]),Ma 2 (.alloc [(.int .i64 0),(.int .i64 0),(.int .i64 0),(.int .i64 0),(.int .i64 0),(.int .i64 0),(.int .i64 0)]),Mb (.store 7 (.t 2) (.t 5))]
@[simp] theorem l52_1:q52_1.length=3:=rfl
instance:KR Try.f52.ntmps q52_1:=⟨[0,2],by kernel_rfl⟩
def q52_2:List MO:=[Ma 6 (.build [(.int .i64 0),(.bool false),(.int .i64 0),(.int .i64 0),(.int .i64 0)] [(0,(1,(.c (.int .i64 2)))),(2,(1,(.c (.int .i64 1)))),(3,(1,(.c (.int .i64 5))))]),Ma 7 (.build [(.int .i64 0),(.int .i64 0),(.int .i64 0),(.int .i64 0),(.int .i64 0)] [(1,(1,(.c (.int .i64 0)))),(2,(1,(.c (.int .i64 10)))),(3,(1,(.c (.int .i64 1)))),(4,(1,(.c (.int .i64 9))))]),Ma 8 (.build [(.int .i64 0),(.bool false),(.int .i64 0),(.int .i64 0),(.int .i64 0),(.int .i64 0),(.int .i64 0),(.int .i64 0),(.int .i64 0),(.int .i64 0)] [(0,(5,(.t 6))),(5,(5,(.t 7)))]),Ma 3 (.alloc [(.int .i64 0),(.bool false),(.int .i64 0),(.int .i64 0),(.int .i64 0),(.int .i64 0),(.int .i64 0),(.int .i64 0),(.int .i64 0),(.int .i64 0)]),Mb (.store 10 (.t 3) (.t 8))]
@[simp] theorem l52_2:q52_2.length=5:=rfl
instance:KR Try.f52.ntmps q52_2:=⟨[0,2,3],by kernel_rfl⟩
def q52_3:List MO:=[Ma 9 (.build [(.int .i64 0),(.bool false),(.int .i64 0),(.int .i64 0),(.int .i64 0)] [(0,(1,(.c (.int .i64 2)))),(2,(1,(.c (.int .i64 1)))),(3,(1,(.c (.int .i64 3))))]),Ma 10 (.build [(.int .i64 0),(.int .i64 0),(.int .i64 0),(.int .i64 0),(.int .i64 0)] [(1,(1,(.c (.int .i64 1)))),(2,(1,(.c (.int .i64 8)))),(3,(1,(.c (.int .i64 1)))),(4,(1,(.c (.int .i64 9))))]),Ma 11 (.build [(.int .i64 0),(.bool false),(.int .i64 0),(.int .i64 0),(.int .i64 0),(.int .i64 0),(.int .i64 0),(.int .i64 0),(.int .i64 0),(.int .i64 0)] [(0,(5,(.t 9))),(5,(5,(.t 10)))]),Ma 4 (.alloc [(.int .i64 0),(.bool false),(.int .i64 0),(.int .i64 0),(.int .i64 0),(.int .i64 0),(.int .i64 0),(.int .i64 0),(.int .i64 0),(.int .i64 0)]),Mb (.store 10 (.t 4) (.t 11))]
@[simp] theorem l52_3:q52_3.length=5:=rfl
instance:KR Try.f52.ntmps q52_3:=⟨[0,2,3,4],by kernel_rfl⟩
def q52_4:List MO:=[Ma 12 (.load true 7 (.t 2)),Ma 13 (.load true 10 (.t 3)),Ma 14 (.load true 10 (.t 4)),Ma 15 (.bsl 10 2 [(.int .i64 0),(.bool false),(.int .i64 0),(.int .i64 0),(.int .i64 0),(.int .i64 0),(.int .i64 0),(.int .i64 0),(.int .i64 0),(.int .i64 0)] [(0,(10,(.t 13))),(10,(10,(.t 14)))]),Mb (.store 7 (.t 0) (.t 12)),Ma 1 (.mv (.t 15))]
@[simp] theorem l52_4:q52_4.length=6:=rfl
def p52_4:List (List Nat):=[[],[],[],[1,2],[0,0],[3,4,0,1,2,3,4]]
instance:KD Try.f52.ntmps q52_4 p52_4:=⟨[[],[],[],[1,2],[0],[0,1,2,3,4]],[0,1],by kernel_rfl⟩
def m52:MCode:=.seq (.reg q52_0) (.seq (.reg q52_1) (.seq (.reg q52_2) (.seq (.reg q52_3) (.seq (.draw q52_4 p52_4) .ret))))
theorem rc52:rcOf Try.prog Try.f52=some m52:=by kernel_rfl
theorem rv52:rRVs Try.prog Try.f52.results.toList=some [(.c true 7 0),(.t 1)]:=by kernel_rfl
theorem nm52:(Try.f52.name == "runtime.NumGoroutine")=false:=by kernel_rfl
def q5_0:List MO:=[Ma 4 (.box (.t 0)),Ma 6 (.box (.t 2)),Ma 8 (.mv (.c (.bool false)))]
@[simp] theorem l5_0:q5_0.length=3:=rfl
instance:KR Try.f5.ntmps q5_0:=⟨[1,3,4,6],by kernel_rfl⟩
def q5_1:List MO:=[Ma 20 (.load true 7 (.t 4)),Ma 21 (.mv (.t 1)),Ma 22 (.call (.c (.fn 9 [])) [(.t 20),(.t 21)]),Ma 19 (.mv (.t 22)),Ma 23 (.ext (.t 19) 0),Ma 24 (.ext (.t 19) 1),Ma 25 (.ext (.t 19) 2),Ma 9 (.mv (.t 23)),Ma 10 (.mv (.t 24)),Ma 11 (.mv (.t 25))]
@[simp] theorem l5_1:q5_1.length=10:=rfl
instance:KR Try.f5.ntmps q5_1:=⟨[3,6,9,11],by kernel_rfl⟩
def q5_2:List MO:=[Ma 26 (.mv (.t 11)),Ma 27 (.un .not (.t 26))]
@[simp] theorem l5_2:q5_2.length=2:=rfl
instance:KR Try.f5.ntmps q5_2:=⟨[3,6,9,27],by kernel_rfl⟩
def q5_3:List MO:=[Ma 28 (.call (.c (.fn 10 [])) []),Ma 8 (.mv (.t 28))]
@[simp] theorem l5_3:q5_3.length=2:=rfl
instance:KR Try.f5.ntmps q5_3:=⟨[8],by kernel_rfl⟩
def q5_4:List MO:=[Ma 29 (.load true 5 (.t 6)),Ma 30 (.call (.c (.fn 11 [])) [(.t 29)]),Ma 12 (.mv (.t 30))]
@[simp] theorem l5_4:q5_4.length=3:=rfl
instance:KR Try.f5.ntmps q5_4:=⟨[3,6,9,12],by kernel_rfl⟩
def q5_5:List MO:=[Ma 31 (.mv (.c (.int .i64 0)))]
@[simp] theorem l5_5:q5_5.length=1:=rfl
instance:KR Try.f5.ntmps q5_5:=⟨[3,6,9,12,31],by kernel_rfl⟩
def q5_6:List MO:=[Ma 32 (.bin .lss (.t 31) (.c (.int .i64 14)))]
@[simp] theorem l5_6:q5_6.length=1:=rfl
instance:KR Try.f5.ntmps q5_6:=⟨[3,6,9,12,31,32],by kernel_rfl⟩
def q5_7:List MO:=[Ma 33 (.mv (.t 31)),Ma 13 (.mv (.t 33))]
@[simp] theorem l5_7:q5_7.length=2:=rfl
instance:KR Try.f5.ntmps q5_7:=⟨[3,6,9,12,13,31],by kernel_rfl⟩
def q5_8:List MO:=[Ma 34 (.mv (.t 12)),Ma 35 (.call (.c (.fn 13 [])) [(.t 34)])]
@[simp] theorem l5_8:q5_8.length=2:=rfl
instance:KR Try.f5.ntmps q5_8:=⟨[3,6,9,12,13,31,35],by kernel_rfl⟩
def q5_9:List MO:=[Ma 8 (.mv (.c (.bool false)))]
@[simp] theorem l5_9:q5_9.length=1:=rfl
instance:KR Try.f5.ntmps q5_9:=⟨[8],by kernel_rfl⟩
def q5_10:List MO:=[Ma 36 (.mv (.t 9)),Ma 37 (.nilck (.t 36)),Ma 38 (.faddr 7 (.t 37)),Ma 39 (.load false 1 (.t 38)),Ma 40 (.call (.c (.fn 22 [])) [(.t 39)]),Ma 14 (.mv (.t 40))]
@[simp] theorem l5_10:q5_10.length=6:=rfl
instance:KR Try.f5.ntmps q5_10:=⟨[3,6,9,12,13,14,31],by kernel_rfl⟩
def q5_11:List MO:=[Ma 41 (.mv (.t 12)),Ma 42 (.mv (.t 9)),Ma 43 (.call (.c (.fn 12 [])) [(.t 41),(.t 42)])]
@[simp] theorem l5_11:q5_11.length=3:=rfl
instance:KR Try.f5.ntmps q5_11:=⟨[3,6,9,12,13,14,31],by kernel_rfl⟩
def q5_12:List MO:=[Ma 44 (.mv (.t 9)),Ma 45 (.nilck (.t 44)),Ma 46 (.faddr 7 (.t 45)),Ma 47 (.load false 1 (.t 46)),Ma 48 (.call (.c (.fn 22 [])) [(.t 47)]),Ma 49 (.mv (.t 14)),Ma 50 (.bin .sub (.t 48) (.t 49)),Ma 15 (.mv (.t 50))]
@[simp] theorem l5_12:q5_12.length=8:=rfl
instance:KR Try.f5.ntmps q5_12:=⟨[3,6,9,12,13,15,31],by kernel_rfl⟩
def q5_13:List MO:=[Ma 51 (.mv (.t 15)),Ma 52 (.bin .lss (.t 51) (.c (.int .i64 0))),Ma 53 (.mv (.t 52)),Mg 54 (.mv (.t 15)) 53 false,Mg 55 (.bin .gtr (.t 54) (.c (.int .i64 1))) 53 false,Ma 56 (.pick (.t 53) (.c (.bool true)) (.t 55)),Ma 57 (.mv (.t 56)),Mg 58 (.mv (.t 12)) 57 false,Mg 59 (.call (.c (.fn 13 [])) [(.t 58)]) 57 false,Mg 60 (.mv (.t 13)) 57 false,Mg 61 (.bin .eql (.t 60) (.c (.int .i64 13))) 57 false,Mg 62 (.eq true .bool (.t 59) (.t 61)) 57 false,Ma 63 (.pick (.t 57) (.c (.bool true)) (.t 62))]
@[simp] theorem l5_13:q5_13.length=13:=rfl
instance:KR Try.f5.ntmps q5_13:=⟨[3,6,9,12,31,63],by kernel_rfl⟩
def q5_14:List MO:=[Ma 8 (.mv (.c (.bool false)))]
@[simp] theorem l5_14:q5_14.length=1:=rfl
instance:KR Try.f5.ntmps q5_14:=⟨[8],by kernel_rfl⟩
def q5_15:List MO:=[Ma 64 (.bin .add (.t 31) (.c (.int .i64 1))),Ma 31 (.mv (.t 64))]
@[simp] theorem l5_15:q5_15.length=2:=rfl
instance:KR Try.f5.ntmps q5_15:=⟨[3,6,9,12,31],by kernel_rfl⟩
def q5_16:List MO:=[Ma 65 (.mv (.t 9)),Ma 66 (.nilck (.t 65)),Ma 67 (.faddr 9 (.t 66)),Ma 68 (.load false 1 (.t 67)),Ma 69 (.len (.t 68)),Ma 16 (.mv (.t 69))]
@[simp] theorem l5_16:q5_16.length=6:=rfl
instance:KR Try.f5.ntmps q5_16:=⟨[3,6,9,12,16],by kernel_rfl⟩
def q5_17:List MO:=[Ma 70 (.mv (.t 9)),Ma 71 (.build [(.int .i64 0),(.int .i64 0),(.int .i64 0),(.int .i64 0),(.int .i64 0),(.int .i64 0),(.int .i64 0),(.int .i64 0),(.int .i64 0),(.int .i64 0),(.int .i64 0),(.int .i64 0),(.int .i64 0),(.int .i64 0)] [(0,(1,(.c (.int .i64 4)))),(1,(1,(.c (.int .i64 7)))),(12,(1,(.c (.int .i64 99))))]),Ma 72 (.call (.c (.fn 23 [])) [(.t 70),(.t 71)])]
@[simp] theorem l5_17:q5_17.length=3:=rfl
instance:KR Try.f5.ntmps q5_17:=⟨[3,6,9,12,16],by kernel_rfl⟩
def q5_18:List MO:=[Ma 73 (.mv (.t 9)),Ma 74 (.nilck (.t 73)),Ma 75 (.faddr 9 (.t 74)),Ma 76 (.load false 1 (.t 75)),Ma 77 (.len (.t 76)),Ma 78 (.mv (.t 16)),Ma 79 (.bin .add (.t 78) (.c (.int .i64 1))),Ma 80 (.bin .neq (.t 77) (.t 79)),Ma 81 (.mv (.t 80)),Mg 82 (.mv (.t 9)) 81 false,Mg 83 (.nilck (.t 82)) 81 false,Mg 84 (.faddr 9 (.t 83)) 81 false,Mg 85 (.load false 1 (.t 84)) 81 false,Mg 86 (.mv (.t 16)) 81 false,Mg 87 (.iaddr 14 (.t 85) (.t 86)) 81 false,Mg 88 (.load true 14 (.t 87)) 81 false,Mg 89 (.mv (.t 9)) 81 false,Mg 90 (.nilck (.t 89)) 81 false,Mg 91 (.faddr 8 (.t 90)) 81 false,Mg 92 (.load false 1 (.t 91)) 81 false,Mg 93 (.call (.c (.fn 24 [])) [(.t 92)]) 81 false,Mg 94 (.build [(.int .i64 0),(.int .i64 0),(.int .i64 0),(.int .i64 0),(.int .i64 0),(.int .i64 0),(.int .i64 0),(.int .i64 0),(.int .i64 0),(.int .i64 0),(.int .i64 0),(.int .i64 0),(.int .i64 0),(.int .i64 0)] [(0,(1,(.c (.int .i64 4)))),(1,(1,(.c (.int .i64 7)))),(12,(1,(.t 93)))]) 81 false,Mg 95 (.eq true (.flat [.i,.i,.i,.i,.i,.i,.i,.i,.i,.i,.i,.i,.i,.i]) (.t 88) (.t 94)) 81 false,Ma 96 (.pick (.t 81) (.c (.bool true)) (.t 95))]
@[simp] theorem l5_18:q5_18.length=24:=rfl
def p5_18:List (List Nat):=[[],[0],[1],[2],[3],[],[5],[4,6],[7],[8],[9,8],[10,8],[11,8],[8],[12,13,8],[14,8],[8],[16,8],[17,8],[18,8],[19,8,8],[20,8],[15,21,8],[8,22]]
instance:KD Try.f5.ntmps q5_18 p5_18:=⟨[[],[0],[0,1],[0,1,2],[0,1,2,3],[],[5],[0,1,2,3,4,5,6],[0,1,2,3,4,5,6,7],[0,1,2,3,4,5,6,7,8],[0,1,2,3,4,5,6,7,8,9],[0,1,2,3,4,5,6,7,8,9,10],[0,1,2,3,4,5,6,7,8,9,10,11],[0,1,2,3,4,5,6,7,8],[0,1,2,3,4,5,6,7,8,9,10,11,12,13],[0,1,2,3,4,5,6,7,8,9,10,11,12,13,14],[0,1,2,3,4,5,6,7,8],[0,1,2,3,4,5,6,7,8,16],[0,1,2,3,4,5,6,7,8,16,17],[0,1,2,3,4,5,6,7,8,16,17,18],[0,1,2,3,4,5,6,7,8,16,17,18,19],[0,1,2,3,4,5,6,7,8,16,17,18,19,20],[0,1,2,3,4,5,6,7,8,9,10,11,12,13,14,15,16,17,18,19,20,21],[0,1,2,3,4,5,6,7,8,9,10,11,12,13,14,15,16,17,18,19,20,21,22]],[3,6,9,12,96],by kernel_rfl⟩
def q5_19:List MO:=[Ma 8 (.mv (.c (.bool false)))]
@[simp] theorem l5_19:q5_19.length=1:=rfl
instance:KR Try.f5.ntmps q5_19:=⟨[8],by kernel_rfl⟩
def q5_20:List MO:=[Ma 97 (.mv (.t 9)),Ma 98 (.nilck (.t 97)),Ma 99 (.faddr 7 (.t 98)),Ma 100 (.load false 1 (.t 99)),Ma 101 (.call (.c (.fn 22 [])) [(.t 100)]),Ma 17 (.mv (.t 101))]
@[simp] theorem l5_20:q5_20.length=6:=rfl
instance:KR Try.f5.ntmps q5_20:=⟨[3,6,9,12,17],by kernel_rfl⟩
def q5_21:List MO:=[Ma 102 (.mv (.t 3)),Ma 103 (.bin .rem (.t 102) (.c (.int .u8 5))),Ma 104 (.conv .i64 (.t 103)),Ma 105 (.mv (.c (.int .i64 0)))]
@[simp] theorem l5_21:q5_21.length=4:=rfl
instance:KR Try.f5.ntmps q5_21:=⟨[6,9,12,17,104,105],by kernel_rfl⟩
def q5_22:List MO:=[Ma 106 (.bin .lss (.t 105) (.t 104))]
@[simp] theorem l5_22:q5_22.length=1:=rfl
instance:KR Try.f5.ntmps q5_22:=⟨[6,9,12,17,104,105,106],by kernel_rfl⟩
def q5_23:List MO:=[Ma 107 (.mv (.t 12)),Ma 108 (.mv (.t 9)),Ma 109 (.call (.c (.fn 12 [])) [(.t 107),(.t 108)])]
@[simp] theorem l5_23:q5_23.length=3:=rfl
instance:KR Try.f5.ntmps q5_23:=⟨[6,9,12,17,104,105],by kernel_rfl⟩
def q5_24:List MO:=[Ma 110 (.bin .add (.t 105) (.c (.int .i64 1))),Ma 105 (.mv (.t 110))]
@[simp] theorem l5_24:q5_24.length=2:=rfl
instance:KR Try.f5.ntmps q5_24:=⟨[6,9,12,17,104,105],by kernel_rfl⟩
def q5_25:List MO:=[Ma 18 (.mv (.c (.raw (.pointer none))))]
@[simp] theorem l5_25:q5_25.length=1:=rfl
instance:KR Try.f5.ntmps q5_25:=⟨[6,9,17,18],by kernel_rfl⟩
def q5_26:List MO:=[Ma 111 (.mv (.t 18)),Ma 112 (.mv (.t 9)),Ma 113 (.call (.c (.fn 12 [])) [(.t 111),(.t 112)])]
@[simp] theorem l5_26:q5_26.length=3:=rfl
instance:KR Try.f5.ntmps q5_26:=⟨[6,9,17,18],by kernel_rfl⟩
def q5_27:List MO:=[Ma 114 (.load true 5 (.t 6)),Ma 115 (.call (.c (.fn 11 [])) [(.t 114)]),Ma 116 (.call (.c (.fn 12 [])) [(.t 115),(.c (.raw (.pointer none)))])]
@[simp] theorem l5_27:q5_27.length=3:=rfl
instance:KR Try.f5.ntmps q5_27:=⟨[9,17,18],by kernel_rfl⟩
def q5_28:List MO:=[Ma 117 (.call (.c (.fn 10 [])) []),Ma 118 (.mv (.t 117)),Mg 119 (.mv (.t 9)) 118 true,Mg 120 (.nilck (.t 119)) 118 true,Mg 121 (.faddr 7 (.t 120)) 118 true,Mg 122 (.load false 1 (.t 121)) 118 true,Mg 123 (.call (.c (.fn 22 [])) [(.t 122)]) 118 true,Mg 124 (.mv (.t 17)) 118 true,Mg 125 (.bin .eql (.t 123) (.t 124)) 118 true,Ma 126 (.pick (.t 118) (.t 125) (.c (.bool false))),Ma 127 (.mv (.t 126)),Mg 128 (.mv (.t 18)) 127 true,Mg 129 (.call (.c (.fn 13 [])) [(.t 128)]) 127 true,Ma 130 (.pick (.t 127) (.t 129) (.c (.bool false))),Ma 131 (.mv (.t 130)),Mg 132 (.mv (.t 18)) 131 true,Mg 133 (.call (.c (.fn 15 [])) [(.t 132)]) 131 true,Mg 134 (.un .not (.t 133)) 131 true,Ma 135 (.pick (.t 131) (.t 134) (.c (.bool false))),Ma 8 (.mv (.t 135))]
@[simp] theorem l5_28:q5_28.length=20:=rfl
instance:KR Try.f5.ntmps q5_28:=⟨[8],by kernel_rfl⟩
def m5:MCode:=.seq (.reg q5_0) (.seq (.reg q5_1) (.seq (.seq (.reg q5_2) (.cond (.t 27) (.seq (.reg q5_3) .ret) .skip)) (.seq (.reg q5_4) (.seq (.seq (.reg q5_5) (.block 0 (.loop (.seq (.reg q5_6) (.seq (.cond (.t 32) .skip (.exit 0)) (.seq (.block 1 (.seq (.reg q5_7) (.seq (.seq (.reg q5_8) (.cond (.t 35) (.seq (.reg q5_9) .ret) .skip)) (.seq (.reg q5_10) (.seq (.reg q5_11) (.seq (.reg q5_12) (.seq (.reg q5_13) (.cond (.t 63) (.seq (.reg q5_14) .ret) .skip)))))))) (.reg q5_15))))))) (.seq (.reg q5_16) (.seq (.reg q5_17) (.seq (.seq (.draw q5_18 p5_18) (.cond (.t 96) (.seq (.reg q5_19) .ret) .skip)) (.seq (.reg q5_20) (.seq (.seq (.reg q5_21) (.block 2 (.loop (.seq (.reg q5_22) (.seq (.cond (.t 106) .skip (.exit 2)) (.seq (.block 3 (.reg q5_23)) (.reg q5_24))))))) (.seq (.reg q5_25) (.seq (.reg q5_26) (.seq (.reg q5_27) (.seq (.reg q5_28) .ret)))))))))))))
theorem rc5:rcOf Try.prog Try.f5=some m5:=by kernel_rfl
theorem rv5:rRVs Try.prog Try.f5.results.toList=some [(.t 8)]:=by kernel_rfl
theorem nm5:(Try.f5.name == "runtime.NumGoroutine")=false:=by kernel_rfl
end Go.W

