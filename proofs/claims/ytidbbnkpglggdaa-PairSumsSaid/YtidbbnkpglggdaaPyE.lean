/- The resolved code of the functions, by a program. What tries do that come one behind the other, with nobody else about. Tries that mix: what a swap of one of them does to the cells. Tries that mix: what always holds. Tries that mix: steps that change no cell. What two orders come to, without their prices. Tries that mix: one cell's state changes, by a step of one of them. -/
import Derived.Test.YtidbbnkpglggdaaPqA
import Derived.Test.YtidbbnkpglggdaaPxA
import Derived.Test.YtidbbnkpglggdaaPsX
namespace Go.W
open Go.Proofs
set_option maxRecDepth 100000
def q7_0:List MO:=[Ma 1 (.box (.t 0)),Ma 2 (.mv (.c (.bool false)))]
@[simp] theorem l7_0:q7_0.length=2:=rfl
instance:KR Try.f7.ntmps q7_0:=⟨[1],by kernel_rfl⟩
def q7_1:List MO:=[Ma 5 (.load true 7 (.t 1)),Ma 6 (.call (.c (.fn 27 [])) [(.t 5)]),Ma 7 (.un .not (.t 6))]
@[simp] theorem l7_1:q7_1.length=3:=rfl
instance:KR Try.f7.ntmps q7_1:=⟨[7],by kernel_rfl⟩
def q7_2:List MO:=[Ma 8 (.call (.c (.fn 28 [])) []),Ma 2 (.mv (.t 8))]
@[simp] theorem l7_2:q7_2.length=2:=rfl
instance:KR Try.f7.ntmps q7_2:=⟨[2],by kernel_rfl⟩
def q7_3:List MO:=[Ma 3 (.mv (.c (.raw (.pointer none))))]
@[simp] theorem l7_3:q7_3.length=1:=rfl
instance:KR Try.f7.ntmps q7_3:=⟨[3],by kernel_rfl⟩
def q7_4:List MO:=[Ma 4 (.mv (.c (.raw (.pointer none))))]
@[simp] theorem l7_4:q7_4.length=1:=rfl
instance:KR Try.f7.ntmps q7_4:=⟨[3,4],by kernel_rfl⟩
def q7_5:List MO:=[Ma 9 (.mv (.t 3)),Ma 10 (.call (.c (.fn 29 [])) [(.t 9),(.c (.raw (.pointer none)))])]
@[simp] theorem l7_5:q7_5.length=2:=rfl
instance:KR Try.f7.ntmps q7_5:=⟨[3,4],by kernel_rfl⟩
def q7_6:List MO:=[Ma 11 (.mv (.t 4)),Ma 12 (.call (.c (.fn 30 [])) [(.t 11),(.c (.raw (.pointer none)))])]
@[simp] theorem l7_6:q7_6.length=2:=rfl
instance:KR Try.f7.ntmps q7_6:=⟨[3,4],by kernel_rfl⟩
def q7_7:List MO:=[Ma 13 (.call (.c (.fn 31 [])) [(.c (.int .i64 0))]),Ma 14 (.call (.c (.fn 29 [])) [(.t 13),(.c (.raw (.pointer none)))])]
@[simp] theorem l7_7:q7_7.length=2:=rfl
instance:KR Try.f7.ntmps q7_7:=⟨[3,4],by kernel_rfl⟩
def q7_8:List MO:=[Ma 15 (.call (.c (.fn 32 [])) [(.c (.int .i64 0))]),Ma 16 (.call (.c (.fn 30 [])) [(.t 15),(.c (.raw (.pointer none)))])]
@[simp] theorem l7_8:q7_8.length=2:=rfl
instance:KR Try.f7.ntmps q7_8:=⟨[3,4],by kernel_rfl⟩
def q7_9:List MO:=[Ma 17 (.call (.c (.fn 28 [])) []),Ma 18 (.mv (.t 17)),Mg 19 (.mv (.t 3)) 18 true,Mg 20 (.call (.c (.fn 33 [])) [(.t 19)]) 18 true,Ma 21 (.pick (.t 18) (.t 20) (.c (.bool false))),Ma 22 (.mv (.t 21)),Mg 23 (.mv (.t 4)) 22 true,Mg 24 (.call (.c (.fn 34 [])) [(.t 23)]) 22 true,Ma 25 (.pick (.t 22) (.t 24) (.c (.bool false))),Ma 26 (.mv (.t 25)),Mg 27 (.mv (.t 3)) 26 true,Mg 28 (.call (.c (.fn 35 [])) [(.t 27)]) 26 true,Mg 29 (.bin .eql (.t 28) (.c (.int .i64 0))) 26 true,Ma 30 (.pick (.t 26) (.t 29) (.c (.bool false))),Ma 31 (.mv (.t 30)),Mg 32 (.mv (.t 4)) 31 true,Mg 33 (.call (.c (.fn 36 [])) [(.t 32)]) 31 true,Mg 34 (.bin .eql (.t 33) (.c (.int .i64 0))) 31 true,Ma 35 (.pick (.t 31) (.t 34) (.c (.bool false))),Ma 2 (.mv (.t 35))]
@[simp] theorem l7_9:q7_9.length=20:=rfl
instance:KR Try.f7.ntmps q7_9:=⟨[2],by kernel_rfl⟩
def q28_0:List MO:=[Ma 0 (.mv (.c (.bool false)))]
@[simp] theorem l28_0:q28_0.length=1:=rfl
instance:KR Try.f28.ntmps q28_0:=⟨[],by kernel_rfl⟩
def q28_1:List MO:=[Ma 10 (.build [(.int .i64 0),(.int .i64 0),(.int .i64 0),(.int .i64 0),(.int .i64 0),(.int .i64 0),(.int .i64 0)] [(0,(1,(.c (.int .i64 2)))),(1,(1,(.c (.int .i64 1)))),(2,(1,(.c (.int .i64 1)))),(3,(1,(.c (.int .i64 1)))),(5,(1,(.c (.int .i64 2)))),(6,(1,(.c (.int .i64 1))))]),Ma 1 (.alloc [(.int .i64 0),(.int .i64 0),(.int .i64 0),(.int .i64 0),(.int .i64 0),(.int .i64 0),(.int .i64 0)]),Mb (.store 7 (.t 1) (.t 10))]
@[simp] theorem l28_1:q28_1.length=3:=rfl
instance:KR Try.f28.ntmps q28_1:=⟨[1],by kernel_rfl⟩
def q28_2:List MO:=[Ma 12 (.load true 7 (.t 1)),Ma 13 (.call (.c (.fn 42 [])) [(.t 12)]),Ma 11 (.mv (.t 13)),Ma 14 (.ext (.t 11) 0),Ma 15 (.ext (.t 11) 1),Ma 2 (.alloc [(.int .i64 0),(.int .i64 0),(.int .i64 0),(.int .i64 0),(.int .i64 0),(.int .i64 0),(.int .i64 0)]),Mb (.store 7 (.t 2) (.t 14)),Ma 3 (.mv (.t 15))]
@[simp] theorem l28_2:q28_2.length=8:=rfl
instance:KR Try.f28.ntmps q28_2:=⟨[1,2,3],by kernel_rfl⟩
def q28_3:List MO:=[Ma 16 (.build [(.int .i64 0),(.int .i64 0),(.int .i64 0),(.int .i64 0),(.int .i64 0)] [(1,(1,(.c (.int .i64 0)))),(2,(1,(.c (.int .i64 10)))),(3,(1,(.c (.int .i64 1)))),(4,(1,(.c (.int .i64 9))))]),Ma 4 (.alloc [(.int .i64 0),(.int .i64 0),(.int .i64 0),(.int .i64 0),(.int .i64 0)]),Mb (.store 5 (.t 4) (.t 16))]
@[simp] theorem l28_3:q28_3.length=3:=rfl
instance:KR Try.f28.ntmps q28_3:=⟨[1,2,3,4],by kernel_rfl⟩
def q28_4:List MO:=[Ma 17 (.build [(.int .i64 0),(.int .i64 0),(.int .i64 0),(.int .i64 0),(.int .i64 0)] [(1,(1,(.c (.int .i64 1)))),(2,(1,(.c (.int .i64 8)))),(3,(1,(.c (.int .i64 1)))),(4,(1,(.c (.int .i64 9))))]),Ma 5 (.alloc [(.int .i64 0),(.int .i64 0),(.int .i64 0),(.int .i64 0),(.int .i64 0)]),Mb (.store 5 (.t 5) (.t 17))]
@[simp] theorem l28_4:q28_4.length=3:=rfl
instance:KR Try.f28.ntmps q28_4:=⟨[1,2,3,4,5],by kernel_rfl⟩
def q28_5:List MO:=[Ma 19 (.load true 7 (.t 1)),Ma 20 (.build [(.int .i64 0),(.bool false),(.int .i64 0),(.int .i64 0),(.int .i64 0)] [(0,(1,(.c (.int .i64 2)))),(2,(1,(.c (.int .i64 1)))),(3,(1,(.c (.int .i64 5))))]),Ma 21 (.load true 5 (.t 4)),Ma 22 (.build [(.int .i64 0),(.bool false),(.int .i64 0),(.int .i64 0),(.int .i64 0),(.int .i64 0),(.int .i64 0),(.int .i64 0),(.int .i64 0),(.int .i64 0)] [(0,(5,(.t 20))),(5,(5,(.t 21)))]),Ma 23 (.build [(.int .i64 0),(.bool false),(.int .i64 0),(.int .i64 0),(.int .i64 0)] [(0,(1,(.c (.int .i64 2)))),(2,(1,(.c (.int .i64 1)))),(3,(1,(.c (.int .i64 3))))]),Ma 24 (.load true 5 (.t 5)),Ma 25 (.build [(.int .i64 0),(.bool false),(.int .i64 0),(.int .i64 0),(.int .i64 0),(.int .i64 0),(.int .i64 0),(.int .i64 0),(.int .i64 0),(.int .i64 0)] [(0,(5,(.t 23))),(5,(5,(.t 24)))]),Ma 26 (.bsl 10 2 [(.int .i64 0),(.bool false),(.int .i64 0),(.int .i64 0),(.int .i64 0),(.int .i64 0),(.int .i64 0),(.int .i64 0),(.int .i64 0),(.int .i64 0)] [(0,(10,(.t 22))),(10,(10,(.t 25)))]),Ma 27 (.call (.c (.fn 9 [])) [(.t 19),(.t 26)]),Ma 18 (.mv (.t 27)),Ma 28 (.ext (.t 18) 0),Ma 29 (.ext (.t 18) 1),Ma 30 (.ext (.t 18) 2),Ma 6 (.mv (.t 28)),Ma 7 (.mv (.t 29)),Ma 8 (.mv (.t 30))]
@[simp] theorem l28_5:q28_5.length=16:=rfl
instance:KR Try.f28.ntmps q28_5:=⟨[2,3,6,8],by kernel_rfl⟩
def q28_6:List MO:=[Ma 31 (.mv (.t 8)),Ma 32 (.un .not (.t 31)),Ma 33 (.mv (.t 32)),Mg 34 (.mv (.t 3)) 33 false,Mg 35 (.eq true .iface (.t 34) (.c (.raw .nilIface))) 33 false,Ma 36 (.pick (.t 33) (.c (.bool true)) (.t 35))]
@[simp] theorem l28_6:q28_6.length=6:=rfl
instance:KR Try.f28.ntmps q28_6:=⟨[2,6,36],by kernel_rfl⟩
def q28_7:List MO:=[Ma 0 (.mv (.c (.bool false)))]
@[simp] theorem l28_7:q28_7.length=1:=rfl
instance:KR Try.f28.ntmps q28_7:=⟨[0],by kernel_rfl⟩
def q28_8:List MO:=[Ma 37 (.call (.c (.fn 31 [])) [(.c (.int .i64 0))]),Ma 9 (.mv (.t 37))]
@[simp] theorem l28_8:q28_8.length=2:=rfl
instance:KR Try.f28.ntmps q28_8:=⟨[2,6,9],by kernel_rfl⟩
def q28_9:List MO:=[Ma 38 (.mv (.c (.int .i64 0)))]
@[simp] theorem l28_9:q28_9.length=1:=rfl
instance:KR Try.f28.ntmps q28_9:=⟨[2,6,9,38],by kernel_rfl⟩
def q28_10:List MO:=[Ma 39 (.bin .lss (.t 38) (.c (.int .i64 56)))]
@[simp] theorem l28_10:q28_10.length=1:=rfl
instance:KR Try.f28.ntmps q28_10:=⟨[2,6,9,38,39],by kernel_rfl⟩
def q28_11:List MO:=[Ma 40 (.mv (.t 9)),Ma 41 (.mv (.t 6)),Ma 42 (.call (.c (.fn 29 [])) [(.t 40),(.t 41)])]
@[simp] theorem l28_11:q28_11.length=3:=rfl
instance:KR Try.f28.ntmps q28_11:=⟨[2,6,9,38],by kernel_rfl⟩
def q28_12:List MO:=[Ma 43 (.bin .add (.t 38) (.c (.int .i64 1))),Ma 38 (.mv (.t 43))]
@[simp] theorem l28_12:q28_12.length=2:=rfl
instance:KR Try.f28.ntmps q28_12:=⟨[2,6,9,38],by kernel_rfl⟩
def q28_13:List MO:=[Ma 44 (.load true 7 (.t 2)),Ma 45 (.call (.c (.fn 40 [])) [(.t 44)]),Ma 46 (.bin .eql (.t 45) (.c (.int .i64 56))),Ma 47 (.mv (.t 46)),Mg 48 (.load true 7 (.t 2)) 47 true,Mg 49 (.call (.c (.fn 39 [])) [(.t 48)]) 47 true,Mg 50 (.bin .eql (.t 49) (.c (.int .i64 8))) 47 true,Ma 51 (.pick (.t 47) (.t 50) (.c (.bool false))),Ma 52 (.mv (.t 51)),Mg 53 (.mv (.t 9)) 52 true,Mg 54 (.call (.c (.fn 35 [])) [(.t 53)]) 52 true,Mg 55 (.bin .eql (.t 54) (.c (.int .i64 1))) 52 true,Ma 56 (.pick (.t 52) (.t 55) (.c (.bool false))),Ma 57 (.mv (.t 56)),Mg 58 (.mv (.t 9)) 57 true,Mg 59 (.call (.c (.fn 33 [])) [(.t 58)]) 57 true,Ma 60 (.pick (.t 57) (.t 59) (.c (.bool false))),Ma 61 (.mv (.t 60)),Mg 62 (.mv (.t 6)) 61 true,Mg 63 (.nilck (.t 62)) 61 true,Mg 64 (.faddr 9 (.t 63)) 61 true,Mg 65 (.load false 1 (.t 64)) 61 true,Mg 66 (.len (.t 65)) 61 true,Mg 67 (.bin .eql (.t 66) (.c (.int .i64 1))) 61 true,Ma 68 (.pick (.t 61) (.t 67) (.c (.bool false))),Ma 0 (.mv (.t 68))]
@[simp] theorem l28_13:q28_13.length=26:=rfl
instance:KR Try.f28.ntmps q28_13:=⟨[0],by kernel_rfl⟩
def q29_0:List MO:=[Ma 5 (.mv (.t 0)),Ma 6 (.eq false .ptr (.t 5) (.c (.raw (.pointer none)))),Ma 7 (.mv (.t 6)),Mg 8 (.mv (.t 1)) 7 false,Mg 9 (.eq false .ptr (.t 8) (.c (.raw (.pointer none)))) 7 false,Ma 10 (.pick (.t 7) (.c (.bool true)) (.t 9))]
@[simp] theorem l29_0:q29_0.length=6:=rfl
instance:KR Try.f29.ntmps q29_0:=⟨[0,1,10],by kernel_rfl⟩
def q29_1:List MO:=[Ma 11 (.mv (.t 1)),Ma 12 (.nilck (.t 11)),Ma 13 (.faddr 0 (.t 12)),Ma 14 (.load true 7 (.t 13)),Ma 15 (.call (.c (.fn 59 [])) [(.t 14)]),Ma 4 (.mv (.t 15))]
@[simp] theorem l29_1:q29_1.length=6:=rfl
instance:KR Try.f29.ntmps q29_1:=⟨[0,1,4],by kernel_rfl⟩
def q29_2:List MO:=[Ma 16 (.mv (.t 0)),Ma 17 (.nilck (.t 16)),Ma 18 (.faddr 3 (.t 17)),Ma 19 (.load false 1 (.t 18)),Ma 20 (.call (.c (.fn 13 [])) [(.t 19)])]
@[simp] theorem l29_2:q29_2.length=5:=rfl
instance:KR Try.f29.ntmps q29_2:=⟨[0,1,4,20],by kernel_rfl⟩
def q29_3:List MO:=[Ma 21 (.mv (.t 0)),Ma 22 (.mv (.t 0)),Ma 23 (.nilck (.t 22)),Ma 24 (.faddr 1 (.t 23)),Ma 25 (.load false 1 (.t 24)),Ma 26 (.mv (.t 4)),Ma 27 (.bin .quo (.t 25) (.t 26)),Ma 28 (.mv (.t 0)),Ma 29 (.nilck (.t 28)),Ma 30 (.faddr 1 (.t 29)),Ma 31 (.load false 1 (.t 30)),Ma 32 (.mv (.t 4)),Ma 33 (.bin .rem (.t 31) (.t 32)),Ma 34 (.mv (.t 0)),Ma 35 (.nilck (.t 34)),Ma 36 (.faddr 0 (.t 35)),Ma 37 (.load false 1 (.t 36)),Ma 38 (.build [(.int .i64 0),(.int .i64 0),(.int .i64 0),(.int .i64 0),(.int .i64 0)] [(0,(1,(.c (.int .i64 3)))),(1,(1,(.t 27))),(3,(1,(.t 33))),(4,(1,(.t 37)))]),Ma 39 (.call (.c (.fn 11 [])) [(.t 38)]),Ma 40 (.nilck (.t 21)),Ma 41 (.faddr 3 (.t 40)),Mb (.store 1 (.t 41) (.t 39))]
@[simp] theorem l29_3:q29_3.length=22:=rfl
def p29_3:List (List Nat):=[[],[],[1],[2],[3],[],[4,5],[],[7],[8],[9],[],[10,11],[],[13],[14],[15],[6,12,16],[17],[0,0,1,2,3,4,5,6,7,8,9,10,11,12,13,14,15,16,17,18],[19,0,1,2,3,4,5,6,7,8,9,10,11,12,13,14,15,16,17,18],[20,18,18,0,1,2,3,4,5,6,7,8,9,10,11,12,13,14,15,16,17,18]]
instance:KD Try.f29.ntmps q29_3 p29_3:=⟨[[],[],[1],[1,2],[1,2,3],[],[1,2,3,4,5],[],[7],[7,8],[7,8,9],[],[7,8,9,10,11],[],[13],[13,14],[13,14,15],[1,2,3,4,5,6,7,8,9,10,11,12,13,14,15,16],[1,2,3,4,5,6,7,8,9,10,11,12,13,14,15,16,17],[0,1,2,3,4,5,6,7,8,9,10,11,12,13,14,15,16,17,18],[0,1,2,3,4,5,6,7,8,9,10,11,12,13,14,15,16,17,18,19],[0,1,2,3,4,5,6,7,8,9,10,11,12,13,14,15,16,17,18,19,20]],[0,1,4],by kernel_rfl⟩
def q29_4:List MO:=[Ma 42 (.mv (.t 0)),Ma 43 (.nilck (.t 42)),Ma 44 (.faddr 3 (.t 43)),Ma 45 (.load false 1 (.t 44)),Ma 46 (.mv (.t 1)),Ma 47 (.call (.c (.fn 12 [])) [(.t 45),(.t 46)])]
@[simp] theorem l29_4:q29_4.length=6:=rfl
instance:KR Try.f29.ntmps q29_4:=⟨[0,4],by kernel_rfl⟩
def q29_5:List MO:=[Ma 48 (.mv (.t 0)),Ma 49 (.nilck (.t 48)),Ma 50 (.faddr 3 (.t 49)),Ma 51 (.load false 1 (.t 50)),Ma 52 (.call (.c (.fn 13 [])) [(.t 51)]),Ma 53 (.un .not (.t 52))]
@[simp] theorem l29_5:q29_5.length=6:=rfl
instance:KR Try.f29.ntmps q29_5:=⟨[0,4,53],by kernel_rfl⟩
def q29_6:List MO:=[Ma 54 (.mv (.t 0)),Ma 55 (.nilck (.t 54)),Ma 56 (.faddr 1 (.t 55)),Ma 57 (.load false 1 (.t 56)),Ma 58 (.bin .add (.t 57) (.c (.int .i64 1))),Ma 59 (.nilck (.t 54)),Ma 60 (.faddr 1 (.t 59)),Mb (.store 1 (.t 60) (.t 58))]
@[simp] theorem l29_6:q29_6.length=8:=rfl
instance:KR Try.f29.ntmps q29_6:=⟨[0,4],by kernel_rfl⟩
def q29_7:List MO:=[Ma 61 (.mv (.t 0)),Ma 62 (.nilck (.t 61)),Ma 63 (.faddr 1 (.t 62)),Ma 64 (.load false 1 (.t 63)),Ma 65 (.mv (.t 4)),Ma 66 (.mv (.t 4)),Ma 67 (.bin .mul (.t 65) (.t 66)),Ma 68 (.bin .eql (.t 64) (.t 67))]
@[simp] theorem l29_7:q29_7.length=8:=rfl
instance:KR Try.f29.ntmps q29_7:=⟨[0,68],by kernel_rfl⟩
def q29_8:List MO:=[Ma 69 (.mv (.t 0)),Ma 70 (.nilck (.t 69)),Ma 71 (.faddr 1 (.t 70)),Mb (.store 1 (.t 71) (.c (.int .i64 0)))]
@[simp] theorem l29_8:q29_8.length=4:=rfl
instance:KR Try.f29.ntmps q29_8:=⟨[0],by kernel_rfl⟩
def q29_9:List MO:=[Ma 72 (.mv (.t 0)),Ma 73 (.nilck (.t 72)),Ma 74 (.faddr 2 (.t 73)),Ma 75 (.load false 1 (.t 74)),Ma 76 (.bin .add (.t 75) (.c (.int .i64 1))),Ma 77 (.nilck (.t 72)),Ma 78 (.faddr 2 (.t 77)),Mb (.store 1 (.t 78) (.t 76))]
@[simp] theorem l29_9:q29_9.length=8:=rfl
instance:KR Try.f29.ntmps q29_9:=⟨[],by kernel_rfl⟩
def q30_0:List MO:=[Ma 7 (.mv (.t 0)),Ma 8 (.eq false .ptr (.t 7) (.c (.raw (.pointer none)))),Ma 9 (.mv (.t 8)),Mg 10 (.mv (.t 1)) 9 false,Mg 11 (.eq false .ptr (.t 10) (.c (.raw (.pointer none)))) 9 false,Ma 12 (.pick (.t 9) (.c (.bool true)) (.t 11))]
@[simp] theorem l30_0:q30_0.length=6:=rfl
instance:KR Try.f30.ntmps q30_0:=⟨[0,1,12],by kernel_rfl⟩
def q30_1:List MO:=[Ma 13 (.mv (.t 0)),Ma 14 (.nilck (.t 13)),Ma 15 (.faddr 1 (.t 14)),Ma 16 (.load false 1 (.t 15)),Ma 17 (.bin .quo (.t 16) (.c (.int .i64 4))),Ma 4 (.mv (.t 17))]
@[simp] theorem l30_1:q30_1.length=6:=rfl
instance:KR Try.f30.ntmps q30_1:=⟨[0,1,4],by kernel_rfl⟩
def q30_2:List MO:=[Ma 18 (.mv (.t 0)),Ma 19 (.nilck (.t 18)),Ma 20 (.faddr 1 (.t 19)),Ma 21 (.load false 1 (.t 20)),Ma 22 (.bin .rem (.t 21) (.c (.int .i64 4)))]
@[simp] theorem l30_2:q30_2.length=5:=rfl
instance:KR Try.f30.ntmps q30_2:=⟨[0,1,4,22],by kernel_rfl⟩
def q30_3:List MO:=[Ma 58 (.bin .eql (.t 22) (.c (.int .i64 0))),Ma 57 (.mv (.t 58))]
@[simp] theorem l30_3:q30_3.length=2:=rfl
instance:KR Try.f30.ntmps q30_3:=⟨[0,1,4,22,57],by kernel_rfl⟩
def q30_4:List MO:=[Ma 59 (.mv (.t 0)),Ma 60 (.nilck (.t 59)),Ma 61 (.faddr 14 (.t 60)),Mb (.store 1 (.t 61) (.c (.bool false)))]
@[simp] theorem l30_4:q30_4.length=4:=rfl
instance:KR Try.f30.ntmps q30_4:=⟨[0,1,4],by kernel_rfl⟩
def q30_5:List MO:=[Ma 63 (.mv (.t 0)),Ma 64 (.mv (.t 0)),Ma 65 (.mv (.t 1)),Ma 66 (.mv (.t 4)),Ma 67 (.call (.c (.fn 14 [])) [(.t 65),(.t 66)]),Ma 62 (.mv (.t 67)),Ma 68 (.ext (.t 62) 0),Ma 69 (.ext (.t 62) 1),Ma 70 (.nilck (.t 63)),Ma 71 (.faddr 3 (.t 70)),Mb (.store 1 (.t 71) (.t 68)),Ma 72 (.nilck (.t 64)),Ma 73 (.faddr 4 (.t 72)),Mb (.store 5 (.t 73) (.t 69))]
@[simp] theorem l30_5:q30_5.length=14:=rfl
instance:KR Try.f30.ntmps q30_5:=⟨[0,1],by kernel_rfl⟩
def q30_6:List MO:=[Ma 75 (.bin .eql (.t 22) (.c (.int .i64 1))),Ma 74 (.mv (.t 75))]
@[simp] theorem l30_6:q30_6.length=2:=rfl
instance:KR Try.f30.ntmps q30_6:=⟨[0,1,4,22,74],by kernel_rfl⟩
def q30_7:List MO:=[Ma 76 (.mv (.t 0)),Ma 77 (.mv (.t 1)),Ma 78 (.mv (.t 4)),Ma 79 (.call (.c (.fn 65 [])) [(.t 77),(.t 78)]),Ma 80 (.nilck (.t 76)),Ma 81 (.faddr 9 (.t 80)),Mb (.store 5 (.t 81) (.t 79))]
@[simp] theorem l30_7:q30_7.length=7:=rfl
instance:KR Try.f30.ntmps q30_7:=⟨[0,1],by kernel_rfl⟩
def q30_8:List MO:=[Ma 83 (.bin .eql (.t 22) (.c (.int .i64 2))),Ma 82 (.mv (.t 83))]
@[simp] theorem l30_8:q30_8.length=2:=rfl
instance:KR Try.f30.ntmps q30_8:=⟨[0,1,4,82],by kernel_rfl⟩
def q30_9:List MO:=[Ma 84 (.mv (.t 0)),Ma 85 (.mv (.t 1)),Ma 86 (.mv (.t 4)),Ma 87 (.call (.c (.fn 66 [])) [(.t 84),(.t 85),(.t 86)])]
@[simp] theorem l30_9:q30_9.length=4:=rfl
instance:KR Try.f30.ntmps q30_9:=⟨[0,1],by kernel_rfl⟩
def q30_10:List MO:=[Ma 24 (.mv (.t 0)),Ma 25 (.nilck (.t 24)),Ma 26 (.faddr 4 (.t 25)),Ma 27 (.load true 5 (.t 26)),Ma 28 (.mv (.t 0)),Ma 29 (.nilck (.t 28)),Ma 30 (.faddr 15 (.t 29)),Ma 31 (.load false 1 (.t 30)),Ma 32 (.call (.c (.fn 67 [])) [(.t 27),(.t 31)]),Ma 23 (.mv (.t 32)),Ma 33 (.ext (.t 23) 0),Ma 34 (.ext (.t 23) 1),Ma 5 (.alloc [(.int .i64 0),(.int .i64 0),(.int .i64 0),(.int .i64 0),(.int .i64 0),(.int .i64 0)]),Mb (.store 6 (.t 5) (.t 33)),Ma 6 (.mv (.t 34))]
@[simp] theorem l30_10:q30_10.length=15:=rfl
def p30_10:List (List Nat):=[[],[0],[1],[2],[],[4],[5],[6],[3,7],[8],[9],[9],[],[12,10,8,0,1,2,3,4,5,6,7,8,9,10,12],[11,13,0,1,2,3,4,5,6,7,8,9,10,11,12,13]]
instance:KD Try.f30.ntmps q30_10 p30_10:=⟨[[],[0],[0,1],[0,1,2],[],[4],[4,5],[4,5,6],[0,1,2,3,4,5,6,7],[0,1,2,3,4,5,6,7,8],[0,1,2,3,4,5,6,7,8,9],[0,1,2,3,4,5,6,7,8,9],[],[0,1,2,3,4,5,6,7,8,9,10,12],[0,1,2,3,4,5,6,7,8,9,10,11,12,13]],[0,1,4,5,6],by kernel_rfl⟩
def q30_11:List MO:=[Ma 35 (.mv (.t 6)),Ma 36 (.mv (.t 35)),Mg 37 (.mv (.t 0)) 36 true,Mg 38 (.nilck (.t 37)) 36 true,Mg 39 (.faddr 14 (.t 38)) 36 true,Mg 40 (.load false 1 (.t 39)) 36 true,Ma 41 (.pick (.t 36) (.t 40) (.c (.bool false)))]
@[simp] theorem l30_11:q30_11.length=7:=rfl
instance:KR Try.f30.ntmps q30_11:=⟨[0,1,4,5,41],by kernel_rfl⟩
def q30_12:List MO:=[Ma 42 (.mv (.t 1)),Ma 43 (.mv (.t 4)),Ma 44 (.mv (.t 0)),Ma 45 (.nilck (.t 44)),Ma 46 (.faddr 4 (.t 45)),Ma 47 (.faddr 2 (.t 46)),Ma 48 (.load false 1 (.t 47)),Ma 49 (.mv (.t 1)),Ma 50 (.nilck (.t 49)),Ma 51 (.faddr 0 (.t 50)),Ma 52 (.faddr 0 (.t 51)),Ma 53 (.faddr 5 (.t 52)),Ma 54 (.load false 1 (.t 53)),Ma 55 (.load true 6 (.t 5)),Ma 56 (.call (.c (.fn 68 [])) [(.t 42),(.t 43),(.t 48),(.t 54),(.t 55)])]
@[simp] theorem l30_12:q30_12.length=15:=rfl
def p30_12:List (List Nat):=[[],[],[],[2],[3],[4],[5],[],[7],[8],[9],[10],[11],[],[0,1,6,12,13]]
instance:KD Try.f30.ntmps q30_12 p30_12:=⟨[[],[],[],[2],[2,3],[2,3,4],[2,3,4,5],[],[7],[7,8],[7,8,9],[7,8,9,10],[7,8,9,10,11],[],[0,1,2,3,4,5,6,7,8,9,10,11,12,13]],[0,1],by kernel_rfl⟩
def q30_13:List MO:=[Ma 88 (.mv (.t 0)),Ma 89 (.nilck (.t 88)),Ma 90 (.faddr 1 (.t 89)),Ma 91 (.load false 1 (.t 90)),Ma 92 (.bin .add (.t 91) (.c (.int .i64 1))),Ma 93 (.nilck (.t 88)),Ma 94 (.faddr 1 (.t 93)),Mb (.store 1 (.t 94) (.t 92))]
@[simp] theorem l30_13:q30_13.length=8:=rfl
instance:KR Try.f30.ntmps q30_13:=⟨[0,1],by kernel_rfl⟩
def q30_14:List MO:=[Ma 95 (.mv (.t 0)),Ma 96 (.nilck (.t 95)),Ma 97 (.faddr 1 (.t 96)),Ma 98 (.load false 1 (.t 97)),Ma 99 (.mv (.t 1)),Ma 100 (.nilck (.t 99)),Ma 101 (.faddr 0 (.t 100)),Ma 102 (.load true 7 (.t 101)),Ma 103 (.call (.c (.fn 39 [])) [(.t 102)]),Ma 104 (.bin .eql (.t 98) (.t 103))]
@[simp] theorem l30_14:q30_14.length=10:=rfl
def p30_14:List (List Nat):=[[],[0],[1],[2],[],[4],[5],[6],[7],[3,8]]
instance:KD Try.f30.ntmps q30_14 p30_14:=⟨[[],[0],[0,1],[0,1,2],[],[4],[4,5],[4,5,6],[4,5,6,7],[0,1,2,3,4,5,6,7,8]],[0,104],by kernel_rfl⟩
def q30_15:List MO:=[Ma 105 (.mv (.t 0)),Ma 106 (.nilck (.t 105)),Ma 107 (.faddr 1 (.t 106)),Mb (.store 1 (.t 107) (.c (.int .i64 0)))]
@[simp] theorem l30_15:q30_15.length=4:=rfl
instance:KR Try.f30.ntmps q30_15:=⟨[0],by kernel_rfl⟩
def q30_16:List MO:=[Ma 108 (.mv (.t 0)),Ma 109 (.nilck (.t 108)),Ma 110 (.faddr 2 (.t 109)),Ma 111 (.load false 1 (.t 110)),Ma 112 (.bin .add (.t 111) (.c (.int .i64 1))),Ma 113 (.nilck (.t 108)),Ma 114 (.faddr 2 (.t 113)),Mb (.store 1 (.t 114) (.t 112))]
@[simp] theorem l30_16:q30_16.length=8:=rfl
instance:KR Try.f30.ntmps q30_16:=⟨[],by kernel_rfl⟩
def q31_0:List MO:=[Ma 2 (.mv (.c (.raw (.pointer none))))]
@[simp] theorem l31_0:q31_0.length=1:=rfl
instance:KR Try.f31.ntmps q31_0:=⟨[0],by kernel_rfl⟩
def q31_1:List MO:=[Ma 3 (.mv (.t 0)),Ma 4 (.build [(.int .i64 0),(.int .i64 0),(.int .i64 0),(.raw (.pointer none))] [(0,(1,(.t 3)))]),Ma 5 (.box (.t 4)),Ma 2 (.mv (.t 5))]
@[simp] theorem l31_1:q31_1.length=4:=rfl
instance:KR Try.f31.ntmps q31_1:=⟨[2],by kernel_rfl⟩
def q32_0:List MO:=[Ma 2 (.mv (.c (.raw (.pointer none))))]
@[simp] theorem l32_0:q32_0.length=1:=rfl
instance:KR Try.f32.ntmps q32_0:=⟨[0],by kernel_rfl⟩
def q32_1:List MO:=[Ma 3 (.mv (.t 0)),Ma 4 (.build [(.int .i64 0),(.int .i64 0),(.int .i64 0),(.int .u64 0),(.int .i64 0),(.bool false),(.int .i64 0),(.int .i64 0),(.int .i64 0),(.int .i64 0),(.int .i64 0),(.int .i64 0),(.int .i64 0),(.int .i64 0),(.bool false),(.int .i64 0)] [(0,(1,(.t 3)))]),Ma 5 (.box (.t 4)),Ma 2 (.mv (.t 5))]
@[simp] theorem l32_1:q32_1.length=4:=rfl
instance:KR Try.f32.ntmps q32_1:=⟨[2],by kernel_rfl⟩
def q33_0:List MO:=[Ma 2 (.mv (.c (.bool false)))]
@[simp] theorem l33_0:q33_0.length=1:=rfl
instance:KR Try.f33.ntmps q33_0:=⟨[0],by kernel_rfl⟩
def q33_1:List MO:=[Ma 3 (.mv (.t 0)),Ma 4 (.eq false .ptr (.t 3) (.c (.raw (.pointer none)))),Ma 5 (.mv (.t 4)),Mg 6 (.mv (.t 0)) 5 false,Mg 7 (.nilck (.t 6)) 5 false,Mg 8 (.faddr 1 (.t 7)) 5 false,Mg 9 (.load false 1 (.t 8)) 5 false,Mg 10 (.bin .eql (.t 9) (.c (.int .i64 0))) 5 false,Mg 11 (.mv (.t 10)) 5 false,Mg 12 (.mv (.t 0)) 11 true,Mg 13 (.nilck (.t 12)) 11 true,Mg 14 (.faddr 3 (.t 13)) 11 true,Mg 15 (.load false 1 (.t 14)) 11 true,Mg 16 (.call (.c (.fn 13 [])) [(.t 15)]) 11 true,Mg 17 (.pick (.t 11) (.t 16) (.c (.bool false))) 5 false,Ma 18 (.pick (.t 5) (.c (.bool true)) (.t 17)),Ma 2 (.mv (.t 18))]
@[simp] theorem l33_1:q33_1.length=17:=rfl
instance:KR Try.f33.ntmps q33_1:=⟨[2],by kernel_rfl⟩
def q34_0:List MO:=[Ma 2 (.mv (.c (.bool false)))]
@[simp] theorem l34_0:q34_0.length=1:=rfl
instance:KR Try.f34.ntmps q34_0:=⟨[0],by kernel_rfl⟩
def q34_1:List MO:=[Ma 3 (.mv (.t 0)),Ma 4 (.eq false .ptr (.t 3) (.c (.raw (.pointer none)))),Ma 5 (.mv (.t 4)),Mg 6 (.mv (.t 0)) 5 false,Mg 7 (.nilck (.t 6)) 5 false,Mg 8 (.faddr 1 (.t 7)) 5 false,Mg 9 (.load false 1 (.t 8)) 5 false,Mg 10 (.bin .eql (.t 9) (.c (.int .i64 0))) 5 false,Ma 11 (.pick (.t 5) (.c (.bool true)) (.t 10)),Ma 2 (.mv (.t 11))]
@[simp] theorem l34_1:q34_1.length=10:=rfl
instance:KR Try.f34.ntmps q34_1:=⟨[2],by kernel_rfl⟩
def q35_0:List MO:=[Ma 2 (.mv (.c (.int .i64 0)))]
@[simp] theorem l35_0:q35_0.length=1:=rfl
instance:KR Try.f35.ntmps q35_0:=⟨[0],by kernel_rfl⟩
def q35_1:List MO:=[Ma 3 (.mv (.t 0)),Ma 4 (.eq false .ptr (.t 3) (.c (.raw (.pointer none))))]
@[simp] theorem l35_1:q35_1.length=2:=rfl
instance:KR Try.f35.ntmps q35_1:=⟨[0,4],by kernel_rfl⟩
def q35_2:List MO:=[Ma 2 (.mv (.c (.int .i64 0)))]
@[simp] theorem l35_2:q35_2.length=1:=rfl
instance:KR Try.f35.ntmps q35_2:=⟨[2],by kernel_rfl⟩
def q35_3:List MO:=[Ma 5 (.mv (.t 0)),Ma 6 (.nilck (.t 5)),Ma 7 (.faddr 2 (.t 6)),Ma 8 (.load false 1 (.t 7)),Ma 2 (.mv (.t 8))]
@[simp] theorem l35_3:q35_3.length=5:=rfl
instance:KR Try.f35.ntmps q35_3:=⟨[2],by kernel_rfl⟩
def q36_0:List MO:=[Ma 2 (.mv (.c (.int .i64 0)))]
@[simp] theorem l36_0:q36_0.length=1:=rfl
instance:KR Try.f36.ntmps q36_0:=⟨[0],by kernel_rfl⟩
def q36_1:List MO:=[Ma 3 (.mv (.t 0)),Ma 4 (.eq false .ptr (.t 3) (.c (.raw (.pointer none))))]
@[simp] theorem l36_1:q36_1.length=2:=rfl
instance:KR Try.f36.ntmps q36_1:=⟨[0,4],by kernel_rfl⟩
def q36_2:List MO:=[Ma 2 (.mv (.c (.int .i64 0)))]
@[simp] theorem l36_2:q36_2.length=1:=rfl
instance:KR Try.f36.ntmps q36_2:=⟨[2],by kernel_rfl⟩
def q36_3:List MO:=[Ma 5 (.mv (.t 0)),Ma 6 (.nilck (.t 5)),Ma 7 (.faddr 2 (.t 6)),Ma 8 (.load false 1 (.t 7)),Ma 2 (.mv (.t 8))]
@[simp] theorem l36_3:q36_3.length=5:=rfl
instance:KR Try.f36.ntmps q36_3:=⟨[2],by kernel_rfl⟩
def q39_0:List MO:=[Ma 1 (.box (.t 0)),Ma 2 (.mv (.c (.int .i64 0)))]
@[simp] theorem l39_0:q39_0.length=2:=rfl
instance:KR Try.f39.ntmps q39_0:=⟨[1],by kernel_rfl⟩
def q39_1:List MO:=[Ma 3 (.load true 7 (.t 1)),Ma 4 (.call (.c (.fn 59 [])) [(.t 3)]),Ma 5 (.bin .mul (.c (.int .i64 4)) (.t 4)),Ma 2 (.mv (.t 5))]
@[simp] theorem l39_1:q39_1.length=4:=rfl
instance:KR Try.f39.ntmps q39_1:=⟨[2],by kernel_rfl⟩
def q40_0:List MO:=[Ma 1 (.box (.t 0)),Ma 2 (.mv (.c (.int .i64 0)))]
@[simp] theorem l40_0:q40_0.length=2:=rfl
instance:KR Try.f40.ntmps q40_0:=⟨[1],by kernel_rfl⟩
def q40_1:List MO:=[Ma 3 (.load true 7 (.t 1)),Ma 4 (.call (.c (.fn 59 [])) [(.t 3)]),Ma 5 (.bin .mul (.c (.int .i64 14)) (.t 4)),Ma 6 (.load true 7 (.t 1)),Ma 7 (.call (.c (.fn 59 [])) [(.t 6)]),Ma 8 (.bin .mul (.t 5) (.t 7)),Ma 2 (.mv (.t 8))]
@[simp] theorem l40_1:q40_1.length=7:=rfl
def p40_1:List (List Nat):=[[],[0],[1],[],[3,1],[2,4],[5,4,0,1,2,3,4,5]]
instance:KD Try.f40.ntmps q40_1 p40_1:=⟨[[],[0],[0,1],[],[0,1,3],[0,1,2,3,4],[0,1,2,3,4,5]],[2],by kernel_rfl⟩
end Go.W

namespace Go.W
open Go.Proofs
set_option linter.unusedSimpArgs false
set_option linter.unusedVariables false
set_option maxHeartbeats 8000000
attribute [local irreducible] Wm
attribute [local simp] nmap lkp mkPl prs prsL prT ddL idL CRenL CRen Ren RenL NObj.none CRenLL
structure SwZ where
 sh:Int
 ix:Int
 ps:Int
 p:Option TZ
end Go.W

namespace Go.W
open Go.Proofs
set_option linter.unusedSimpArgs false
set_option linter.unusedVariables false
set_option maxHeartbeats 8000000
attribute [local irreducible] Wm
attribute [local simp] nmap lkp mkPl prs prsL prT ddL idL CRenL CRen Ren RenL NObj.none CRenLL
end Go.W

namespace Go.W
open Go.Proofs
set_option linter.unusedSimpArgs false
set_option linter.unusedVariables false
set_option maxHeartbeats 8000000
attribute [local irreducible] Wm
attribute [local simp] nmap lkp mkPl prs prsL prT ddL idL CRenL CRen Ren RenL NObj.none CRenLL
end Go.W

namespace Go.W
open Go.Proofs
set_option linter.unusedSimpArgs false
set_option linter.unusedVariables false
set_option maxHeartbeats 8000000
def stW (W:WZ) (i:Int):StZ:=stateZ (sAt W i)
def tmW (W:WZ) (i:Int):TmZ:=termsZ (tAt W i)
end Go.W

namespace Go.W
open Go.Proofs
set_option linter.unusedSimpArgs false
set_option linter.unusedVariables false
set_option maxHeartbeats 8000000
theorem turn_true {W:WZ} {x old:Int} {s:StZ} (hx0:0≤x) (hl:2*x+1<W.ws.length) (h:(turnW W x old s).1=true):sAt W x=old∧stW (turnW W x old s).2 x=s∧(∀ i:Int,0≤i→i≠x→stW (turnW W x old s).2 i=stW W i)∧(∀ i:Int,0≤i→tmW (turnW W x old s).2 i=tmW W i)∧(turnW W x old s).2.lg=W.lg∧(turnW W x old s).2.ws.length=W.ws.length:=by
 unfold turnW at h⊢
 cases hv:wordS s with
 | none=>rw[hv]at h;cases h
 | some v =>
  rw[hv]at h
  simp only at h⊢
  by_cases e:sAt W x=old
  ·rw[if_pos e]
   refine ⟨e,?_,fun i i0 hi=>?_,fun i i0=>?_,rfl,List.length_set ..⟩
   ·unfold stW
    simp only
    rw[sAt_put (by omega)]
    exact (wordS_rt hv).1
   ·unfold stW
    simp only
    rw[sAt_putn (by omega)]
   ·unfold tmW
    simp only
    rw[tAt_puts (by omega)]
  ·rw[if_neg e]at h;cases h
theorem turn_false {W:WZ} {x old:Int} {s:StZ} (h:(turnW W x old s).1=false):(turnW W x old s).2.ws=W.ws∧(turnW W x old s).2.lg=W.lg:=by
 unfold turnW at h⊢
 cases hv:wordS s with
 | none=>exact ⟨rfl,rfl⟩
 | some v =>
  rw[hv]at h
  simp only at h⊢
  by_cases e:sAt W x=old
  ·rw[if_pos e]at h;cases h
  ·rw[if_neg e];exact ⟨rfl,rfl⟩
theorem turn_why {W:WZ} {x old:Int} {s:StZ} {v:Int} (hv:wordS s=some v) (h:(turnW W x old s).1=false):sAt W x≠old:=by
 unfold turnW at h
 rw[hv]at h
 simp only at h
 intro e
 rw[if_pos e]at h
 cases h
theorem ws_st {W V:WZ} (h:V.ws=W.ws) (i:Int):stW V i=stW W i∧tmW V i=tmW W i∧sAt V i=sAt W i:=by
 unfold stW tmW sAt tAt
 rw[h]
 exact ⟨rfl,rfl,rfl⟩
def fillC (i:Int):List AV→Int
 | [.int .i64 k,.int .i64 c,.int .i64 g,.int .i64 o,.int .i64 w,_,_,_,_,_,.int .i64 q,_,_,_]=>if k=2 then (if c=i then q else 0)+(if o=i then q else 0) else 0
 | _=>0
def fillL (i:Int):List (List AV)→Int
 | []=>0
 | r :: l=>fillC i r+fillL i l
theorem fillL_app (i:Int):∀ a b:List (List AV),fillL i (a++b)=fillL i a+fillL i b
 | [],b=>by simp[fillL]
 | r :: a,b=>by
  simp only[List.cons_append,fillL,fillL_app i a b]
  omega
theorem fill_2 (i c g o w q p t e:Int):fillC i (evC 2 c g o w q p t e)=(if c=i then q else 0)+(if o=i then q else 0):=by
 simp[evC,fillC]
theorem fill_n {i k c g o w q p t e:Int} (h:k≠2):fillC i (evC k c g o w q p t e)=0:=by
 simp[evC,fillC,h]
def holdB (T:TZ) (i:Int):Bool:=T.held&&!T.free&&decide (T.x=i)
def owes (T:TZ) (i:Int):Int:=if holdB T i=true∧T.made=true then T.q else 0
def cntL (i:Int):List TZ→Nat
 | []=>0
 | T :: l=>(if holdB T i=true then 1 else 0)+cntL i l
def oweL (i:Int):List TZ→Int
 | []=>0
 | T :: l=>owes T i+oweL i l
theorem cnt_set (i:Int):∀ (l:List TZ) (k:Nat) (T T':TZ),l[k]?=some T→cntL i (l.set k T')+(if holdB T i=true then 1 else 0)=cntL i l+(if holdB T' i=true then 1 else 0)
 | [],k,T,T',h=>by simp at h
 | A :: l,0,T,T',h=>by
  simp only[List.getElem?_cons_zero,Option.some.injEq]at h
  subst h
  simp only[List.set_cons_zero,cntL]
  omega
 | A :: l,k+1,T,T',h=>by
  simp only[List.getElem?_cons_succ]at h
  have:=cnt_set i l k T T' h
  simp only[List.set_cons_succ,cntL]
  omega
theorem owe_set (i:Int):∀ (l:List TZ) (k:Nat) (T T':TZ),l[k]?=some T→oweL i (l.set k T')=oweL i l - owes T i+owes T' i
 | [],k,T,T',h=>by simp at h
 | A :: l,0,T,T',h=>by
  simp only[List.getElem?_cons_zero,Option.some.injEq]at h
  subst h
  simp only[List.set_cons_zero,oweL]
  omega
 | A :: l,k+1,T,T',h=>by
  simp only[List.getElem?_cons_succ]at h
  have:=owe_set i l k T T' h
  simp only[List.set_cons_succ,oweL]
  omega
end Go.W

namespace Go.W
open Go.Proofs
set_option linter.unusedSimpArgs false
set_option linter.unusedVariables false
set_option maxHeartbeats 8000000
def CellJ (F:Int) (s:StZ):Prop:=(s.k=1∨s.k=2∨s.k=3∨s.k=4→1≤s.l∧s.f<F)∧(s.fl=true→heldZ s.k=true)
def HoldJ (W:WZ) (T:TZ):Prop:=(stateZ T.wx).l=(stW W T.x).l∧(stateZ T.wx).f=(stW W T.x).f∧(T.made=true→1≤T.q∧T.q≤(stW W T.x).l)∧(T.pc=7∨T.pc=9→heldZ (stateZ T.wx).k=true)
 ∧ (T.pc=7→sAt W T.x=T.wx∨(stW W T.x).fl=true)∧(T.pc=8→(stW W T.x).fl=true)∧(T.pc=9→(stW W T.x).fl=true∧sAt W T.x=T.wx)∧3≤T.pc∧T.pc≤9
def TryJ (B W:WZ) (T:TZ):Prop:=0≤T.pc∧T.pc≤14∧(idl B.a B.b T.x T.y=true→T.held=false∧T.made=false)∧(T.pc≤2→T.held=false)∧(T.pc≤5→T.made=false)∧(T.pc≤7→T.free=false)∧(T.made=true→T.held=true)∧(T.free=true→T.held=true)∧(T.held=true→T.free=false→HoldJ W T)
def LogJ (n:Int) (L:List (List AV)):Prop:=∀ r,r∈L→∃ k c g o w q p t e:Int,r=evC k c g o w q p t e∧(k=2→0≤c∧c<n∧0≤o∧o<n)
def SysJ (B:WZ) (was:Int→Int) (W:WZ) (Ts:List TZ):Prop:=okW W=true∧parX W=parX B∧(∀ i:Int,0≤i→i<B.a*B.b→CellJ B.f (stW W i)∧cntL i Ts=(if heldZ (stW W i).k=true then 1 else 0)∧(stW W i).l+fillL i W.lg=was i+oweL i Ts)∧LogJ (B.a*B.b) W.lg∧∀ T,T∈Ts→TryJ B W T
theorem hold_pos {i:Int} {Ts:List TZ} {T:TZ} (h:T∈Ts) (hh:holdB T i=true):1≤cntL i Ts:=by
 induction Ts with
 | nil=>cases h
 | cons A l ih =>
  show 1≤(if holdB A i=true then 1 else 0)+cntL i l
  rcases List.mem_cons.1 h with e|h
  ·rw[← e,if_pos hh];omega
  ·have:=ih h
   omega
theorem hold_none {i:Int} {Ts:List TZ} (h:cntL i Ts=0) {T:TZ} (hT:T∈Ts):holdB T i=false:=by
 by_cases e:holdB T i=true
 ·have:=hold_pos hT e;omega
 ·simpa using e
theorem mem_set' {α:Type} {l:List α} {k:Nat} {a b:α} (h:b∈l.set k a):b=a∨∃ j:Nat,j≠k∧l[j]?=some b:=by
 obtain ⟨j,hj⟩:=List.getElem?_of_mem h
 by_cases e:j=k
 ·subst e
  rw[List.getElem?_set]at hj
  simp only[if_true]at hj
  split at hj
  ·injection hj with hj;exact .inl hj.symm
  ·cases hj
 ·rw[List.getElem?_set_ne (fun x=>e x.symm)]at hj
  exact .inr ⟨j,e,hj⟩
theorem hold_one {i:Int} {Ts:List TZ}:∀ {k j:Nat} {T U:TZ},Ts[k]?=some T→Ts[j]?=some U→j≠k→holdB T i=true→holdB U i=true→2≤cntL i Ts:=by
 induction Ts with
 | nil=>intro k j T U h;simp at h
 | cons A l ih =>
  intro k j T U h1 h2 hne a b
  show 2≤(if holdB A i=true then 1 else 0)+cntL i l
  cases k with
  | zero =>
   cases j with
   | zero=>exact absurd rfl hne
   | succ j =>
    simp only[List.getElem?_cons_zero,Option.some.injEq]at h1
    simp only[List.getElem?_cons_succ]at h2
    have:=hold_pos (List.mem_of_getElem? h2) b
    rw[h1,if_pos a];omega
  | succ k =>
   simp only[List.getElem?_cons_succ]at h1
   cases j with
   | zero =>
    simp only[List.getElem?_cons_zero,Option.some.injEq]at h2
    have:=hold_pos (List.mem_of_getElem? h1) a
    rw[h2,if_pos b];omega
   | succ j =>
    simp only[List.getElem?_cons_succ]at h2
    have:=ih h1 h2 (by omega) a b
    omega
end Go.W

namespace Go.W
open Go.Proofs
set_option linter.unusedSimpArgs false
set_option linter.unusedVariables false
set_option maxHeartbeats 8000000
theorem try_keep {B W W':WZ} {T:TZ} (h:TryJ B W T) (k:holdB T T.x=true→sAt W' T.x=sAt W T.x):TryJ B W' T:=by
 obtain ⟨h1,h2,h3,h4,h5,h6,h7,h8,h9⟩:=h
 refine ⟨h1,h2,h3,h4,h5,h6,h7,h8,fun a b=>?_⟩
 have e:=k (by simp[holdB,a,b])
 have e2:stW W' T.x=stW W T.x:=by unfold stW;rw[e]
 have:=h9 a b
 unfold HoldJ at this⊢
 rw[e,e2]
 exact this
theorem sys_same {B:WZ} {was:Int→Int} {W W':WZ} {Ts:List TZ} {k:Nat} {T T':TZ} (h:SysJ B was W Ts) (hk:Ts[k]?=some T) (ok:okW W'=true) (par:parX W'=parX W) (hst:∀ i:Int,0≤i→i<B.a*B.b→sAt W' i=sAt W i) (hlg:W'.lg=W.lg)
  (hh:∀ i,holdB T' i=holdB T i) (ho:∀ i,owes T' i=owes T i) (hx:∀ U:TZ,U∈Ts→holdB U U.x=true→0≤U.x∧U.x<B.a*B.b) (hT:TryJ B W' T'):SysJ B was W' (Ts.set k T'):=by
 obtain ⟨s1,s2,s3,s4,s5⟩:=h
 refine ⟨ok,par.trans s2,fun i i0 i1=>?_,by rw[hlg];exact s4,fun U hU=>?_⟩
 ·obtain ⟨c1,c2,c3⟩:=s3 i i0 i1
  have e:stW W' i=stW W i:=by unfold stW;rw[hst i i0 i1]
  have hc:=cnt_set i Ts k T T' hk
  have ho2:=owe_set i Ts k T T' hk
  rw[hh i]at hc
  rw[ho i]at ho2
  rw[e,hlg]
  exact ⟨c1,by omega,by omega⟩
 ·rcases mem_set' hU with rfl|⟨j,hj,hm⟩
  ·exact hT
  ·have hmem:=List.mem_of_getElem? hm
   exact try_keep (s5 U hmem) fun a=>hst U.x (hx U hmem a).1 (hx U hmem a).2
end Go.W

namespace Go.W
open Go.Proofs
set_option linter.unusedSimpArgs false
set_option linter.unusedVariables false
set_option maxHeartbeats 8000000
theorem match_q {a b:TmZ} {l o:Int} (h:(matchZ a b l o).1≠0):1≤(matchZ a b l o).1∧(matchZ a b l o).1≤l∧(matchZ a b l o).1≤o:=by
 have key:(matchZ a b l o).1=0∨(1≤(if o<l then o else l)∧(matchZ a b l o).1=(if o<l then o else l)):=by
  unfold matchZ
  obtain ⟨m,e⟩:∃ x,(if o<l then o else l)=x:=⟨_,rfl⟩
  rw[e]
  repeat' split
  all_goals first|exact .inl rfl|exact .inr ⟨by omega,rfl⟩
 rcases key with k|⟨k1,k2⟩
 ·exact absurd k h
 ·rw[k2]
  refine ⟨k1,?_,?_⟩
  ·split<;>omega
  ·split<;>omega
end Go.W

namespace Go.W
open Go.Proofs
set_option linter.unusedSimpArgs false
set_option linter.unusedVariables false
set_option maxHeartbeats 8000000
theorem hold_in {B:WZ} {was:Int→Int} {W:WZ} {Ts:List TZ} {U:TZ} {i:Int} (h:SysJ B was W Ts) (hU:U∈Ts) (a:holdB U i=true):U.held=true∧U.free=false∧U.x=i∧idl B.a B.b U.x U.y=false∧0≤i∧i<B.a*B.b∧HoldJ W U:=by
 have hj:=h.2.2.2.2 U hU
 obtain ⟨h1,h2,h3,h4,h5,h6,h7,h8,h9⟩:=hj
 simp only[holdB,Bool.and_eq_true,Bool.not_eq_true',decide_eq_true_eq]at a
 obtain ⟨⟨a1,a2⟩,a3⟩:=a
 have hi:idl B.a B.b U.x U.y=false:=by
  by_cases e:idl B.a B.b U.x U.y=true
  ·have:=(h3 e).1;rw[a1]at this;cases this
  ·simpa using e
 have p:=parX_ab h.2.1
 have hin:=idle_in (W:=W) (T:=U) h.1 (by rw[idle_eq,p.1,p.2.1];exact hi)
 rw[p.1,p.2.1]at hin
 exact ⟨a1,a2,a3,hi,by rw[← a3];exact hin.1,by rw[← a3];exact hin.2.1,h9 a1 a2⟩
theorem sys_cell {B:WZ} {was:Int→Int} {W W':WZ} {Ts:List TZ} {k:Nat} {T T':TZ} (z:Int) (h:SysJ B was W Ts) (hk:Ts[k]?=some T) (ok:okW W'=true) (par:parX W'=parX W)
  (hst:∀ i:Int,0≤i→i<B.a*B.b→i≠z→sAt W' i=sAt W i)
  (hcell:∀ i:Int,0≤i→i<B.a*B.b→i=z→CellJ B.f (stW W' i))
  (hcnt:∀ i:Int,0≤i→i<B.a*B.b→(if heldZ (stW W' i).k=true then 1 else 0)+(if holdB T i=true then 1 else 0)=(if heldZ (stW W i).k=true then 1 else 0)+(if holdB T' i=true then 1 else 0))
  (hsum:∀ i:Int,0≤i→i<B.a*B.b→(stW W' i).l+fillL i W'.lg - owes T' i=(stW W i).l+fillL i W.lg - owes T i)
  (hU:∀ (j:Nat) (U:TZ),j≠k→Ts[j]?=some U→holdB U z=false) (hlog:LogJ (B.a*B.b) W'.lg) (hT:TryJ B W' T'):SysJ B was W' (Ts.set k T'):=by
 have h':=h
 obtain ⟨s1,s2,s3,s4,s5⟩:=h
 refine ⟨ok,par.trans s2,fun i i0 i1=>?_,hlog,fun U hUm=>?_⟩
 ·obtain ⟨c1,c2,c3⟩:=s3 i i0 i1
  have hc:=cnt_set i Ts k T T' hk
  have ho:=owe_set i Ts k T T' hk
  have hn:=hcnt i i0 i1
  have hs:=hsum i i0 i1
  refine ⟨?_,by omega,by omega⟩
  by_cases e:i=z
  ·exact hcell i i0 i1 e
  ·have e2:stW W' i=stW W i:=by unfold stW;rw[hst i i0 i1 e]
   rw[e2];exact c1
 ·rcases mem_set' hUm with rfl|⟨j,hj,hm⟩
  ·exact hT
  ·have hmem:=List.mem_of_getElem? hm
   refine try_keep (s5 U hmem) fun a=>?_
   have r:=hold_in h' hmem a
   refine hst U.x r.2.2.2.2.1 r.2.2.2.2.2.1 fun e=>?_
   have:=hU j U hj hm
   rw[← e,a]at this
   cases this
theorem turn_sAt {W:WZ} {x old:Int} {s:StZ} {i:Int} (i0:0≤i) (x0:0≤x) (h:i≠x):sAt (turnW W x old s).2 i=sAt W i:=by
 unfold sAt
 exact turn_frame (by omega)
theorem words_lo {W:WZ} (h:okW W=true) {x:Int} (h0:0≤x) (h1:x<W.a*W.b):2*x+1<W.ws.length:=by
 obtain ⟨hcf,hw,hwl,_⟩:=okW_ex h
 have hc:=cfg_ex hcf
 have hall:=cfg_all hcf
 have hwd:=words_in (f:=W.f) (g:=W.g) (show 0≤W.a*W.b by omega) hall.2 (by omega) (by omega)
 omega
theorem turn_ok2 {B W:WZ} {x old:Int} {s:StZ} (hW:okW W=true) (hp:parX W=parX B) (x0:0≤x) (x1:x<B.a*B.b) (h:(turnW W x old s).1=true):sAt W x=old∧stW (turnW W x old s).2 x=s∧(∀ i:Int,0≤i→i≠x→stW (turnW W x old s).2 i=stW W i):=by
 have p:=parX_ab hp
 have:=turn_true x0 (words_lo hW x0 (by rw[p.1,p.2.1];exact x1)) h
 exact ⟨this.1,this.2.1,this.2.2.1⟩
theorem loose_free {B:WZ} {was:Int→Int} {W:WZ} {Ts:List TZ} {i:Int} (h:SysJ B was W Ts) (i0:0≤i) (i1:i<B.a*B.b) (hl:heldZ (stW W i).k=false) {T:TZ} (hT:T∈Ts):holdB T i=false:=by
 have c:=(h.2.2.1 i i0 i1).2.1
 rw[hl,if_neg (by simp)]at c
 exact hold_none c hT
theorem held_cell {B:WZ} {was:Int→Int} {W:WZ} {Ts:List TZ} {i:Int} (h:SysJ B was W Ts) (i0:0≤i) (i1:i<B.a*B.b) {T:TZ} (hT:T∈Ts) (a:holdB T i=true):heldZ (stW W i).k=true:=by
 by_cases e:heldZ (stW W i).k=true
 ·exact e
 ·have:=loose_free h i0 i1 (by simpa using e) hT
  rw[a]at this;cases this
theorem held_one {B:WZ} {was:Int→Int} {W:WZ} {Ts:List TZ} {i:Int} (h:SysJ B was W Ts) (i0:0≤i) (i1:i<B.a*B.b) {k j:Nat} {T U:TZ} (hk:Ts[k]?=some T) (a:holdB T i=true) (hj:j≠k) (hU:Ts[j]?=some U):holdB U i=false:=by
 by_cases e:holdB U i=true
 ·have h2:=hold_one hk hU hj a e
  have c:=(h.2.2.1 i i0 i1).2.1
  split at c<;>omega
 ·simpa using e
theorem heldZ_ex {k:Int} (h:heldZ k=true):k=3∨k=4:=by
 simp only[heldZ,Bool.or_eq_true,decide_eq_true_eq]at h;exact h
theorem heldZ_n {k:Int} (h:heldZ k=false):k≠3∧k≠4:=by
 simp only[heldZ,Bool.or_eq_false_iff,decide_eq_false_iff_not]at h;exact h
theorem looseZ_ex {k:Int} (h:looseZ k=true):k=1∨k=2:=by
 simp only[looseZ,Bool.or_eq_true,decide_eq_true_eq]at h;exact h
end Go.W

