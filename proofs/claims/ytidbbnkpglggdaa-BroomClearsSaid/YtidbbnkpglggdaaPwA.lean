/- The resolved code of the functions, by a program. -/
import Derived.Test.YtidbbnkpglggdaaPqA
import Derived.Test.YtidbbnkpglggdaaPsV0
namespace Go.W
open Go.Proofs
set_option maxRecDepth 100000
def q8_0:List MO:=[Ma 3 (.box (.t 0)),Ma 6 (.mv (.c (.bool false)))]
@[simp] theorem l8_0:q8_0.length=2:=rfl
instance:KR Try.f8.ntmps q8_0:=⟨[1,2,3],by kernel_rfl⟩
def q8_1:List MO:=[Ma 26 (.load true 7 (.t 3)),Ma 27 (.mv (.t 1)),Ma 28 (.call (.c (.fn 9 [])) [(.t 26),(.t 27)]),Ma 25 (.mv (.t 28)),Ma 29 (.ext (.t 25) 0),Ma 30 (.ext (.t 25) 1),Ma 31 (.ext (.t 25) 2),Ma 7 (.mv (.t 29)),Ma 8 (.mv (.t 30)),Ma 9 (.mv (.t 31))]
@[simp] theorem l8_1:q8_1.length=10:=rfl
instance:KR Try.f8.ntmps q8_1:=⟨[2,3,7,8,9],by kernel_rfl⟩
def q8_2:List MO:=[Ma 32 (.mv (.t 9)),Ma 33 (.un .not (.t 32)),Ma 34 (.mv (.t 33)),Mg 35 (.mv (.t 8)) 34 false,Mg 36 (.nilck (.t 35)) 34 false,Mg 37 (.faddr 7 (.t 36)) 34 false,Mg 38 (.load false 1 (.t 37)) 34 false,Mg 39 (.len (.t 38)) 34 false,Mg 40 (.bin .gtr (.t 39) (.c (.int .i64 9))) 34 false,Ma 41 (.pick (.t 34) (.c (.bool true)) (.t 40))]
@[simp] theorem l8_2:q8_2.length=10:=rfl
instance:KR Try.f8.ntmps q8_2:=⟨[2,3,7,8,41],by kernel_rfl⟩
def q8_3:List MO:=[Ma 42 (.call (.c (.fn 28 [])) []),Ma 6 (.mv (.t 42))]
@[simp] theorem l8_3:q8_3.length=2:=rfl
instance:KR Try.f8.ntmps q8_3:=⟨[6],by kernel_rfl⟩
def q8_4:List MO:=[Ma 43 (.mv (.t 7)),Ma 44 (.nilck (.t 43)),Ma 45 (.faddr 8 (.t 44)),Ma 46 (.load false 1 (.t 45)),Ma 47 (.mv (.t 2)),Ma 48 (.conv .i64 (.t 47)),Ma 49 (.bsl 1 1 [(.int .i64 0)] [(0,(1,(.t 48)))]),Ma 50 (.call (.c (.fn 37 [])) [(.t 46),(.t 49)]),Ma 10 (.mv (.t 50))]
@[simp] theorem l8_4:q8_4.length=9:=rfl
instance:KR Try.f8.ntmps q8_4:=⟨[3,7,8,10],by kernel_rfl⟩
def q8_5:List MO:=[Ma 51 (.mv (.t 7)),Ma 52 (.nilck (.t 51)),Ma 53 (.faddr 0 (.t 52)),Ma 54 (.load true 7 (.t 53)),Ma 55 (.call (.c (.fn 38 [])) [(.t 54)]),Ma 56 (.mv (.c (.int .i64 0)))]
@[simp] theorem l8_5:q8_5.length=6:=rfl
instance:KR Try.f8.ntmps q8_5:=⟨[3,7,8,10,55,56],by kernel_rfl⟩
def q8_6:List MO:=[Ma 57 (.bin .lss (.t 56) (.t 55))]
@[simp] theorem l8_6:q8_6.length=1:=rfl
instance:KR Try.f8.ntmps q8_6:=⟨[3,7,8,10,55,56,57],by kernel_rfl⟩
def q8_7:List MO:=[Ma 58 (.mv (.t 56)),Ma 11 (.mv (.t 58))]
@[simp] theorem l8_7:q8_7.length=2:=rfl
instance:KR Try.f8.ntmps q8_7:=⟨[3,7,8,10,11,55,56],by kernel_rfl⟩
def q8_8:List MO:=[Ma 59 (.mv (.t 11)),Ma 60 (.call (.c (.fn 32 [])) [(.t 59)]),Ma 12 (.mv (.t 60))]
@[simp] theorem l8_8:q8_8.length=3:=rfl
instance:KR Try.f8.ntmps q8_8:=⟨[3,7,8,10,12,55,56],by kernel_rfl⟩
def q8_9:List MO:=[Ma 61 (.mv (.t 7)),Ma 62 (.nilck (.t 61)),Ma 63 (.faddr 0 (.t 62)),Ma 64 (.load true 7 (.t 63)),Ma 65 (.call (.c (.fn 39 [])) [(.t 64)]),Ma 66 (.mv (.c (.int .i64 0)))]
@[simp] theorem l8_9:q8_9.length=6:=rfl
instance:KR Try.f8.ntmps q8_9:=⟨[3,7,8,10,12,55,56,65,66],by kernel_rfl⟩
def q8_10:List MO:=[Ma 67 (.bin .lss (.t 66) (.t 65))]
@[simp] theorem l8_10:q8_10.length=1:=rfl
instance:KR Try.f8.ntmps q8_10:=⟨[3,7,8,10,12,55,56,65,66,67],by kernel_rfl⟩
def q8_11:List MO:=[Ma 68 (.mv (.t 12)),Ma 69 (.mv (.t 7)),Ma 70 (.call (.c (.fn 30 [])) [(.t 68),(.t 69)])]
@[simp] theorem l8_11:q8_11.length=3:=rfl
instance:KR Try.f8.ntmps q8_11:=⟨[3,7,8,10,12,55,56,65,66],by kernel_rfl⟩
def q8_12:List MO:=[Ma 71 (.bin .add (.t 66) (.c (.int .i64 1))),Ma 66 (.mv (.t 71))]
@[simp] theorem l8_12:q8_12.length=2:=rfl
instance:KR Try.f8.ntmps q8_12:=⟨[3,7,8,10,12,55,56,65,66],by kernel_rfl⟩
def q8_13:List MO:=[Ma 72 (.bin .add (.t 56) (.c (.int .i64 1))),Ma 56 (.mv (.t 72))]
@[simp] theorem l8_13:q8_13.length=2:=rfl
instance:KR Try.f8.ntmps q8_13:=⟨[3,7,8,10,55,56],by kernel_rfl⟩
def q8_14:List MO:=[Ma 73 (.mv (.t 7)),Ma 74 (.nilck (.t 73)),Ma 75 (.faddr 0 (.t 74)),Ma 76 (.load true 7 (.t 75)),Ma 77 (.call (.c (.fn 38 [])) [(.t 76)]),Ma 78 (.mv (.c (.int .i64 0)))]
@[simp] theorem l8_14:q8_14.length=6:=rfl
instance:KR Try.f8.ntmps q8_14:=⟨[3,7,8,10,77,78],by kernel_rfl⟩
def q8_15:List MO:=[Ma 79 (.bin .lss (.t 78) (.t 77))]
@[simp] theorem l8_15:q8_15.length=1:=rfl
instance:KR Try.f8.ntmps q8_15:=⟨[3,7,8,10,77,78,79],by kernel_rfl⟩
def q8_16:List MO:=[Ma 80 (.mv (.t 78)),Ma 13 (.mv (.t 80))]
@[simp] theorem l8_16:q8_16.length=2:=rfl
instance:KR Try.f8.ntmps q8_16:=⟨[3,7,8,10,13,77,78],by kernel_rfl⟩
def q8_17:List MO:=[Ma 81 (.mv (.t 13)),Ma 82 (.call (.c (.fn 31 [])) [(.t 81)]),Ma 14 (.mv (.t 82))]
@[simp] theorem l8_17:q8_17.length=3:=rfl
instance:KR Try.f8.ntmps q8_17:=⟨[3,7,8,10,14,77,78],by kernel_rfl⟩
def q8_18:List MO:=[Ma 83 (.mv (.t 7)),Ma 84 (.nilck (.t 83)),Ma 85 (.faddr 0 (.t 84)),Ma 86 (.load true 7 (.t 85)),Ma 87 (.call (.c (.fn 40 [])) [(.t 86)]),Ma 88 (.mv (.c (.int .i64 0)))]
@[simp] theorem l8_18:q8_18.length=6:=rfl
instance:KR Try.f8.ntmps q8_18:=⟨[3,7,8,10,14,77,78,87,88],by kernel_rfl⟩
def q8_19:List MO:=[Ma 89 (.bin .lss (.t 88) (.t 87))]
@[simp] theorem l8_19:q8_19.length=1:=rfl
instance:KR Try.f8.ntmps q8_19:=⟨[3,7,8,10,14,77,78,87,88,89],by kernel_rfl⟩
def q8_20:List MO:=[Ma 90 (.mv (.t 14)),Ma 91 (.mv (.t 7)),Ma 92 (.call (.c (.fn 29 [])) [(.t 90),(.t 91)])]
@[simp] theorem l8_20:q8_20.length=3:=rfl
instance:KR Try.f8.ntmps q8_20:=⟨[3,7,8,10,14,77,78,87,88],by kernel_rfl⟩
def q8_21:List MO:=[Ma 93 (.bin .add (.t 88) (.c (.int .i64 1))),Ma 88 (.mv (.t 93))]
@[simp] theorem l8_21:q8_21.length=2:=rfl
instance:KR Try.f8.ntmps q8_21:=⟨[3,7,8,10,14,77,78,87,88],by kernel_rfl⟩
def q8_22:List MO:=[Ma 94 (.bin .add (.t 78) (.c (.int .i64 1))),Ma 78 (.mv (.t 94))]
@[simp] theorem l8_22:q8_22.length=2:=rfl
instance:KR Try.f8.ntmps q8_22:=⟨[3,7,8,10,77,78],by kernel_rfl⟩
def q8_23:List MO:=[Ma 15 (.mv (.c .nsl))]
@[simp] theorem l8_23:q8_23.length=1:=rfl
instance:KR Try.f8.ntmps q8_23:=⟨[3,7,8,10,15],by kernel_rfl⟩
def q8_24:List MO:=[Ma 95 (.mv (.t 8)),Ma 96 (.nilck (.t 95)),Ma 97 (.faddr 7 (.t 96)),Ma 98 (.load false 1 (.t 97)),Ma 99 (.len (.t 98)),Ma 100 (.mv (.c (.int .i64 0)))]
@[simp] theorem l8_24:q8_24.length=6:=rfl
instance:KR Try.f8.ntmps q8_24:=⟨[3,7,8,10,15,99,100],by kernel_rfl⟩
def q8_25:List MO:=[Ma 101 (.bin .lss (.t 100) (.t 99))]
@[simp] theorem l8_25:q8_25.length=1:=rfl
instance:KR Try.f8.ntmps q8_25:=⟨[3,7,8,10,15,99,100,101],by kernel_rfl⟩
def q8_26:List MO:=[Ma 102 (.mv (.t 100)),Ma 16 (.mv (.t 102))]
@[simp] theorem l8_26:q8_26.length=2:=rfl
instance:KR Try.f8.ntmps q8_26:=⟨[3,7,8,10,15,16,99,100],by kernel_rfl⟩
def q8_27:List MO:=[Ma 104 (.mv (.t 7)),Ma 105 (.mv (.t 16)),Ma 106 (.call (.c (.fn 14 [])) [(.t 104),(.t 105)]),Ma 103 (.mv (.t 106)),Ma 107 (.ext (.t 103) 0),Ma 108 (.ext (.t 103) 1),Ma 18 (.alloc [(.int .i64 0),(.bool false),(.int .i64 0),(.int .i64 0),(.int .i64 0)]),Ma 17 (.mv (.t 107)),Mb (.store 5 (.t 18) (.t 108))]
@[simp] theorem l8_27:q8_27.length=9:=rfl
instance:KR Try.f8.ntmps q8_27:=⟨[3,7,8,10,15,16,18,99,100],by kernel_rfl⟩
def q8_28:List MO:=[Ma 109 (.load true 5 (.t 18)),Ma 110 (.call (.c (.fn 16 [])) [(.t 109)]),Ma 111 (.mv (.t 110)),Mg 112 (.load true 5 (.t 18)) 111 false,Mg 113 (.call (.c (.fn 41 [])) [(.t 112)]) 111 false,Mg 114 (.mv (.t 113)) 111 false,Mg 115 (.mv (.t 8)) 114 true,Mg 116 (.nilck (.t 115)) 114 true,Mg 117 (.faddr 8 (.t 116)) 114 true,Mg 118 (.load false 1 (.t 117)) 114 true,Mg 119 (.mv (.t 16)) 114 true,Mg 120 (.iaddr 5 (.t 118) (.t 119)) 114 true,Mg 121 (.faddr 4 (.t 120)) 114 true,Mg 122 (.load false 1 (.t 121)) 114 true,Mg 123 (.mv (.t 10)) 114 true,Mg 124 (.bin .leq (.t 122) (.t 123)) 114 true,Mg 125 (.pick (.t 114) (.t 124) (.c (.bool false))) 111 false,Ma 126 (.pick (.t 111) (.c (.bool true)) (.t 125))]
@[simp] theorem l8_28:q8_28.length=18:=rfl
instance:KR Try.f8.ntmps q8_28:=⟨[3,7,8,10,15,18,99,100,126],by kernel_rfl⟩
def q8_29:List MO:=[Ma 6 (.mv (.c (.bool false)))]
@[simp] theorem l8_29:q8_29.length=1:=rfl
instance:KR Try.f8.ntmps q8_29:=⟨[6],by kernel_rfl⟩
def q8_30:List MO:=[Ma 127 (.mv (.t 15)),Ma 128 (.load true 5 (.t 18)),Ma 129 (.bsl 5 1 [(.int .i64 0),(.bool false),(.int .i64 0),(.int .i64 0),(.int .i64 0)] [(0,(5,(.t 128)))]),Ma 130 (.app 5 40 (.t 127) (.t 129)),Ma 15 (.mv (.t 130))]
@[simp] theorem l8_30:q8_30.length=5:=rfl
instance:KR Try.f8.ntmps q8_30:=⟨[3,7,8,10,15,99,100],by kernel_rfl⟩
def q8_31:List MO:=[Ma 131 (.bin .add (.t 100) (.c (.int .i64 1))),Ma 100 (.mv (.t 131))]
@[simp] theorem l8_31:q8_31.length=2:=rfl
instance:KR Try.f8.ntmps q8_31:=⟨[3,7,8,10,15,99,100],by kernel_rfl⟩
def q8_32:List MO:=[Ma 132 (.mv (.t 15)),Ma 133 (.len (.t 132)),Ma 134 (.mv (.c (.int .i64 0)))]
@[simp] theorem l8_32:q8_32.length=3:=rfl
instance:KR Try.f8.ntmps q8_32:=⟨[3,8,15,132,133,134],by kernel_rfl⟩
def q8_33:List MO:=[Ma 135 (.bin .lss (.t 134) (.t 133))]
@[simp] theorem l8_33:q8_33.length=1:=rfl
instance:KR Try.f8.ntmps q8_33:=⟨[3,8,15,132,133,134,135],by kernel_rfl⟩
def q8_34:List MO:=[Ma 136 (.mv (.t 134)),Ma 137 (.iaddr 5 (.t 132) (.t 134)),Ma 138 (.load true 5 (.t 137)),Ma 20 (.alloc [(.int .i64 0),(.bool false),(.int .i64 0),(.int .i64 0),(.int .i64 0)]),Ma 19 (.mv (.t 136)),Mb (.store 5 (.t 20) (.t 138))]
@[simp] theorem l8_34:q8_34.length=6:=rfl
instance:KR Try.f8.ntmps q8_34:=⟨[3,8,15,19,20,132,133,134],by kernel_rfl⟩
def q8_35:List MO:=[Ma 139 (.mv (.t 15)),Ma 140 (.len (.t 139)),Ma 141 (.mv (.c (.int .i64 0)))]
@[simp] theorem l8_35:q8_35.length=3:=rfl
instance:KR Try.f8.ntmps q8_35:=⟨[3,8,15,19,20,132,133,134,139,140,141],by kernel_rfl⟩
def q8_36:List MO:=[Ma 142 (.bin .lss (.t 141) (.t 140))]
@[simp] theorem l8_36:q8_36.length=1:=rfl
instance:KR Try.f8.ntmps q8_36:=⟨[3,8,15,19,20,132,133,134,139,140,141,142],by kernel_rfl⟩
def q8_37:List MO:=[Ma 143 (.mv (.t 141)),Ma 144 (.iaddr 5 (.t 139) (.t 141)),Ma 145 (.load true 5 (.t 144)),Ma 22 (.alloc [(.int .i64 0),(.bool false),(.int .i64 0),(.int .i64 0),(.int .i64 0)]),Ma 21 (.mv (.t 143)),Mb (.store 5 (.t 22) (.t 145))]
@[simp] theorem l8_37:q8_37.length=6:=rfl
instance:KR Try.f8.ntmps q8_37:=⟨[3,8,15,19,20,21,22,132,133,134,139,140,141],by kernel_rfl⟩
def q8_38:List MO:=[Ma 146 (.faddr 0 (.t 20)),Ma 147 (.load false 1 (.t 146)),Ma 148 (.bin .neq (.t 147) (.c (.int .i64 2))),Ma 149 (.mv (.t 148)),Mg 150 (.faddr 0 (.t 22)) 149 false,Mg 151 (.load false 1 (.t 150)) 149 false,Mg 152 (.bin .neq (.t 151) (.c (.int .i64 2))) 149 false,Ma 153 (.pick (.t 149) (.c (.bool true)) (.t 152)),Ma 154 (.mv (.t 153)),Mg 155 (.mv (.t 19)) 154 false,Mg 156 (.faddr 1 (.t 3)) 154 false,Mg 157 (.load false 1 (.t 156)) 154 false,Mg 158 (.bin .quo (.t 155) (.t 157)) 154 false,Mg 159 (.mv (.t 21)) 154 false,Mg 160 (.faddr 1 (.t 3)) 154 false,Mg 161 (.load false 1 (.t 160)) 154 false,Mg 162 (.bin .quo (.t 159) (.t 161)) 154 false,Mg 163 (.bin .eql (.t 158) (.t 162)) 154 false,Ma 164 (.pick (.t 154) (.c (.bool true)) (.t 163))]
@[simp] theorem l8_38:q8_38.length=19:=rfl
def p8_38:List (List Nat):=[[],[0],[1],[2],[3],[4,3],[5,3],[3,6],[7,3],[8],[8],[10,8],[9,11,8],[8],[8],[14,8],[13,15,8],[12,16,8],[8,17]]
instance:KD Try.f8.ntmps q8_38 p8_38:=⟨[[],[0],[0,1],[0,1,2],[0,1,2,3],[0,1,2,3,4],[0,1,2,3,4,5],[0,1,2,3,4,5,6],[0,1,2,3,4,5,6,7],[0,1,2,3,4,5,6,7,8],[0,1,2,3,4,5,6,7,8],[0,1,2,3,4,5,6,7,8,10],[0,1,2,3,4,5,6,7,8,9,10,11],[0,1,2,3,4,5,6,7,8],[0,1,2,3,4,5,6,7,8],[0,1,2,3,4,5,6,7,8,14],[0,1,2,3,4,5,6,7,8,13,14,15],[0,1,2,3,4,5,6,7,8,9,10,11,12,13,14,15,16],[0,1,2,3,4,5,6,7,8,9,10,11,12,13,14,15,16,17]],[3,8,15,19,20,21,22,132,133,134,139,140,141,164],by kernel_rfl⟩
def q8_39:List MO:=[Ma 166 (.mv (.t 8)),Ma 167 (.nilck (.t 166)),Ma 168 (.faddr 8 (.t 167)),Ma 169 (.load false 1 (.t 168)),Ma 170 (.mv (.t 19)),Ma 171 (.iaddr 5 (.t 169) (.t 170)),Ma 172 (.load true 5 (.t 171)),Ma 173 (.mv (.t 8)),Ma 174 (.nilck (.t 173)),Ma 175 (.faddr 8 (.t 174)),Ma 176 (.load false 1 (.t 175)),Ma 177 (.mv (.t 21)),Ma 178 (.iaddr 5 (.t 176) (.t 177)),Ma 179 (.load true 5 (.t 178)),Ma 180 (.faddr 3 (.t 20)),Ma 181 (.load false 1 (.t 180)),Ma 182 (.faddr 3 (.t 22)),Ma 183 (.load false 1 (.t 182)),Ma 184 (.call (.c (.fn 18 [])) [(.t 172),(.t 179),(.t 181),(.t 183)]),Ma 165 (.mv (.t 184)),Ma 185 (.ext (.t 165) 0),Ma 186 (.ext (.t 165) 1),Ma 23 (.mv (.t 185)),Ma 24 (.mv (.t 186))]
@[simp] theorem l8_39:q8_39.length=24:=rfl
def p8_39:List (List Nat):=[[],[0],[1],[2],[],[3,4],[5],[],[7],[8],[9],[],[10,11],[12],[],[14],[],[16],[6,13,15,17],[18],[19],[19],[20,18,0,1,2,3,4,5,6,7,8,9,10,11,12,13,14,15,16,17,18,19,20],[21,22,0,1,2,3,4,5,6,7,8,9,10,11,12,13,14,15,16,17,18,19,20,21,22]]
instance:KD Try.f8.ntmps q8_39 p8_39:=⟨[[],[0],[0,1],[0,1,2],[],[0,1,2,3,4],[0,1,2,3,4,5],[],[7],[7,8],[7,8,9],[],[7,8,9,10,11],[7,8,9,10,11,12],[],[14],[],[16],[0,1,2,3,4,5,6,7,8,9,10,11,12,13,14,15,16,17],[0,1,2,3,4,5,6,7,8,9,10,11,12,13,14,15,16,17,18],[0,1,2,3,4,5,6,7,8,9,10,11,12,13,14,15,16,17,18,19],[0,1,2,3,4,5,6,7,8,9,10,11,12,13,14,15,16,17,18,19],[0,1,2,3,4,5,6,7,8,9,10,11,12,13,14,15,16,17,18,19,20],[0,1,2,3,4,5,6,7,8,9,10,11,12,13,14,15,16,17,18,19,20,21,22]],[3,8,15,19,20,23,132,133,134,139,140,141],by kernel_rfl⟩
def q8_40:List MO:=[Ma 187 (.mv (.t 23)),Ma 188 (.bin .gtr (.t 187) (.c (.int .i64 0)))]
@[simp] theorem l8_40:q8_40.length=2:=rfl
instance:KR Try.f8.ntmps q8_40:=⟨[3,8,15,19,20,132,133,134,139,140,141,188],by kernel_rfl⟩
def q8_41:List MO:=[Ma 6 (.mv (.c (.bool false)))]
@[simp] theorem l8_41:q8_41.length=1:=rfl
instance:KR Try.f8.ntmps q8_41:=⟨[6],by kernel_rfl⟩
def q8_42:List MO:=[Ma 189 (.bin .add (.t 141) (.c (.int .i64 1))),Ma 141 (.mv (.t 189))]
@[simp] theorem l8_42:q8_42.length=2:=rfl
instance:KR Try.f8.ntmps q8_42:=⟨[3,8,15,19,20,132,133,134,139,140,141],by kernel_rfl⟩
def q8_43:List MO:=[Ma 190 (.bin .add (.t 134) (.c (.int .i64 1))),Ma 134 (.mv (.t 190))]
@[simp] theorem l8_43:q8_43.length=2:=rfl
instance:KR Try.f8.ntmps q8_43:=⟨[3,8,15,132,133,134],by kernel_rfl⟩
def q8_44:List MO:=[Ma 191 (.call (.c (.fn 28 [])) []),Ma 6 (.mv (.t 191))]
@[simp] theorem l8_44:q8_44.length=2:=rfl
instance:KR Try.f8.ntmps q8_44:=⟨[6],by kernel_rfl⟩
def m8:MCode:=.seq (.reg q8_0) (.seq (.reg q8_1) (.seq (.seq (.reg q8_2) (.cond (.t 41) (.seq (.reg q8_3) .ret) .skip)) (.seq (.reg q8_4) (.seq (.seq (.reg q8_5) (.block 0 (.loop (.seq (.reg q8_6) (.seq (.cond (.t 57) .skip (.exit 0)) (.seq (.block 1 (.seq (.reg q8_7) (.seq (.reg q8_8) (.seq (.reg q8_9) (.block 2 (.loop (.seq (.reg q8_10) (.seq (.cond (.t 67) .skip (.exit 2)) (.seq (.block 3 (.reg q8_11)) (.reg q8_12)))))))))) (.reg q8_13))))))) (.seq (.seq (.reg q8_14) (.block 4 (.loop (.seq (.reg q8_15) (.seq (.cond (.t 79) .skip (.exit 4)) (.seq (.block 5 (.seq (.reg q8_16) (.seq (.reg q8_17) (.seq (.reg q8_18) (.block 6 (.loop (.seq (.reg q8_19) (.seq (.cond (.t 89) .skip (.exit 6)) (.seq (.block 7 (.reg q8_20)) (.reg q8_21)))))))))) (.reg q8_22))))))) (.seq (.reg q8_23) (.seq (.seq (.reg q8_24) (.block 8 (.loop (.seq (.reg q8_25) (.seq (.cond (.t 101) .skip (.exit 8)) (.seq (.block 9 (.seq (.reg q8_26) (.seq (.reg q8_27) (.seq (.seq (.reg q8_28) (.cond (.t 126) (.seq (.reg q8_29) .ret) .skip)) (.reg q8_30))))) (.reg q8_31))))))) (.seq (.seq (.reg q8_32) (.block 10 (.loop (.seq (.reg q8_33) (.seq (.cond (.t 135) .skip (.exit 10)) (.seq (.block 11 (.seq (.reg q8_34) (.seq (.reg q8_35) (.block 12 (.loop (.seq (.reg q8_36) (.seq (.cond (.t 142) .skip (.exit 12)) (.seq (.block 13 (.seq (.reg q8_37) (.seq (.seq (.draw q8_38 p8_38) (.cond (.t 164) (.exit 13) .skip)) (.seq (.draw q8_39 p8_39) (.seq (.reg q8_40) (.cond (.t 188) (.seq (.reg q8_41) .ret) .skip)))))) (.reg q8_42))))))))) (.reg q8_43))))))) (.seq (.reg q8_44) .ret)))))))))
theorem rc8:rcOf Try.prog Try.f8=some m8:=by kernel_rfl
theorem rv8:rRVs Try.prog Try.f8.results.toList=some [(.t 6)]:=by kernel_rfl
theorem nm8:(Try.f8.name == "runtime.NumGoroutine")=false:=by kernel_rfl
def q66_0:List MO:=[Ma 9 (.mv (.t 0)),Ma 10 (.nilck (.t 9)),Ma 11 (.faddr 4 (.t 10)),Ma 12 (.load true 5 (.t 11)),Ma 13 (.call (.c (.fn 88 [])) [(.t 12)]),Ma 8 (.mv (.t 13)),Ma 14 (.ext (.t 8) 0),Ma 15 (.ext (.t 8) 1),Ma 6 (.alloc [(.int .i64 0),(.bool false),(.int .i64 0),(.int .i64 0),(.int .i64 0)]),Mb (.store 5 (.t 6) (.t 14)),Ma 7 (.mv (.t 15))]
@[simp] theorem l66_0:q66_0.length=11:=rfl
instance:KR Try.f66.ntmps q66_0:=⟨[0,1,2,6,7],by kernel_rfl⟩
def q66_1:List MO:=[Ma 17 (.mv (.t 7)),Ma 18 (.eq true .iface (.t 17) (.c (.raw .nilIface))),Ma 19 (.mv (.t 18)),Mg 20 (.mv (.t 1)) 19 false,Mg 21 (.nilck (.t 20)) 19 false,Mg 22 (.faddr 0 (.t 21)) 19 false,Mg 23 (.load true 7 (.t 22)) 19 false,Mg 24 (.mv (.t 0)) 19 false,Mg 25 (.nilck (.t 24)) 19 false,Mg 26 (.faddr 9 (.t 25)) 19 false,Mg 27 (.load true 5 (.t 26)) 19 false,Mg 28 (.call (.c (.fn 89 [])) [(.t 23),(.t 27)]) 19 false,Mg 29 (.mv (.t 0)) 19 false,Mg 30 (.nilck (.t 29)) 19 false,Mg 31 (.faddr 0 (.t 30)) 19 false,Mg 32 (.load false 1 (.t 31)) 19 false,Mg 33 (.bin .neq (.t 28) (.t 32)) 19 false,Ma 34 (.pick (.t 19) (.c (.bool true)) (.t 33)),Ma 16 (.mv (.t 34))]
@[simp] theorem l66_1:q66_1.length=19:=rfl
def p66_1:List (List Nat):=[[],[0],[1],[2],[3,2],[4,2],[5,2],[2],[7,2],[8,2],[9,2],[6,10,2,2],[2],[12,2],[13,2],[14,2],[11,15,2],[2,16],[17,11]]
instance:KD Try.f66.ntmps q66_1 p66_1:=⟨[[],[0],[0,1],[0,1,2],[0,1,2,3],[0,1,2,3,4],[0,1,2,3,4,5],[0,1,2],[0,1,2,7],[0,1,2,7,8],[0,1,2,7,8,9],[0,1,2,3,4,5,6,7,8,9,10],[0,1,2],[0,1,2,12],[0,1,2,12,13],[0,1,2,12,13,14],[0,1,2,3,4,5,6,7,8,9,10,11,12,13,14,15],[0,1,2,3,4,5,6,7,8,9,10,11,12,13,14,15,16],[0,1,2,3,4,5,6,7,8,9,10,11,12,13,14,15,16,17]],[0,1,2,6,16],by kernel_rfl⟩
def q66_2:List MO:=[Ma 36 (.mv (.t 1)),Ma 37 (.nilck (.t 36)),Ma 38 (.faddr 8 (.t 37)),Ma 39 (.load false 1 (.t 38)),Ma 40 (.mv (.t 0)),Ma 41 (.nilck (.t 40)),Ma 42 (.faddr 9 (.t 41)),Ma 43 (.faddr 4 (.t 42)),Ma 44 (.load false 1 (.t 43)),Ma 45 (.call (.c (.fn 90 [])) [(.t 39),(.t 44)]),Ma 46 (.un .not (.t 45)),Ma 35 (.mv (.t 46))]
@[simp] theorem l66_2:q66_2.length=12:=rfl
def p66_2:List (List Nat):=[[],[0],[1],[2],[],[4],[5],[6],[7],[3,8],[9],[10,9]]
instance:KD Try.f66.ntmps q66_2 p66_2:=⟨[[],[0],[0,1],[0,1,2],[],[4],[4,5],[4,5,6],[4,5,6,7],[0,1,2,3,4,5,6,7,8],[0,1,2,3,4,5,6,7,8,9],[0,1,2,3,4,5,6,7,8,9,10]],[0,1,2,6,35],by kernel_rfl⟩
def q66_3:List MO:=[Ma 47 (.mv (.t 0)),Ma 48 (.mv (.t 1)),Ma 49 (.mv (.t 2)),Ma 50 (.mv (.t 0)),Ma 51 (.nilck (.t 50)),Ma 52 (.faddr 3 (.t 51)),Ma 53 (.load false 1 (.t 52)),Ma 54 (.load true 5 (.t 6)),Ma 55 (.call (.c (.fn 26 [])) [(.t 48),(.t 49),(.t 53),(.t 54)]),Ma 56 (.nilck (.t 47)),Ma 57 (.faddr 14 (.t 56)),Mb (.store 1 (.t 57) (.t 55))]
@[simp] theorem l66_3:q66_3.length=12:=rfl
def p66_3:List (List Nat):=[[],[],[],[],[3],[4],[5],[],[1,2,6,7],[0,0,1,2,3,4,5,6,7,8],[9,0,1,2,3,4,5,6,7,8],[10,8,8,0,1,2,3,4,5,6,7,8]]
instance:KD Try.f66.ntmps q66_3 p66_3:=⟨[[],[],[],[],[3],[3,4],[3,4,5],[],[1,2,3,4,5,6,7],[0,1,2,3,4,5,6,7,8],[0,1,2,3,4,5,6,7,8,9],[0,1,2,3,4,5,6,7,8,9,10]],[0,1,2,6],by kernel_rfl⟩
def q66_4:List MO:=[Ma 58 (.mv (.t 0)),Ma 59 (.nilck (.t 58)),Ma 60 (.faddr 14 (.t 59)),Ma 61 (.load false 1 (.t 60))]
@[simp] theorem l66_4:q66_4.length=4:=rfl
instance:KR Try.f66.ntmps q66_4:=⟨[0,1,2,6,61],by kernel_rfl⟩
def q66_5:List MO:=[Ma 62 (.mv (.t 0)),Ma 63 (.mv (.t 0)),Ma 64 (.load true 5 (.t 6)),Ma 65 (.mv (.t 1)),Ma 66 (.nilck (.t 65)),Ma 67 (.faddr 8 (.t 66)),Ma 68 (.load false 1 (.t 67)),Ma 69 (.call (.c (.fn 24 [])) [(.t 68)]),Ma 70 (.nilck (.t 62)),Ma 71 (.faddr 4 (.t 70)),Mb (.store 5 (.t 71) (.t 64)),Ma 72 (.nilck (.t 63)),Ma 73 (.faddr 15 (.t 72)),Mb (.store 1 (.t 73) (.t 69))]
@[simp] theorem l66_5:q66_5.length=14:=rfl
def p66_5:List (List Nat):=[[],[],[],[],[3],[4],[5],[6],[0,0,2,6,7],[8,0,2,6,7],[9,2,7,0,2,6,7],[1,0,1,2,3,4,5,6,7,8,9,10],[11,0,1,2,3,4,5,6,7,8,9,10],[12,7,10,0,1,2,3,4,5,6,7,8,9,10]]
instance:KD Try.f66.ntmps q66_5 p66_5:=⟨[[],[],[],[],[3],[3,4],[3,4,5],[3,4,5,6],[0,2,3,4,5,6,7],[0,2,3,4,5,6,7,8],[0,2,3,4,5,6,7,8,9],[0,1,2,3,4,5,6,7,8,9,10],[0,1,2,3,4,5,6,7,8,9,10,11],[0,1,2,3,4,5,6,7,8,9,10,11,12]],[1,2,6],by kernel_rfl⟩
def q66_6:List MO:=[Ma 74 (.mv (.t 1)),Ma 75 (.mv (.t 2)),Ma 76 (.faddr 2 (.t 6)),Ma 77 (.load false 1 (.t 76)),Ma 78 (.build [(.int .i64 0),(.int .i64 0),(.int .i64 0),(.int .i64 0),(.int .i64 0),(.int .i64 0),(.int .i64 0),(.int .i64 0),(.int .i64 0),(.int .i64 0),(.int .i64 0),(.int .i64 0),(.int .i64 0),(.int .i64 0)] [(0,(1,(.c (.int .i64 5)))),(1,(1,(.t 75))),(2,(1,(.t 77)))]),Ma 79 (.call (.c (.fn 23 [])) [(.t 74),(.t 78)])]
@[simp] theorem l66_6:q66_6.length=6:=rfl
instance:KR Try.f66.ntmps q66_6:=⟨[],by kernel_rfl⟩
def m66:MCode:=.seq (.reg q66_0) (.seq (.block 0 (.seq (.draw q66_1 p66_1) (.cond (.t 16) .ret (.seq (.draw q66_2 p66_2) (.cond (.t 35) .ret .skip))))) (.seq (.draw q66_3 p66_3) (.seq (.reg q66_4) (.cond (.t 61) (.seq (.draw q66_5 p66_5) (.reg q66_6)) .skip))))
theorem rc66:rcOf Try.prog Try.f66=some m66:=by kernel_rfl
theorem rv66:rRVs Try.prog Try.f66.results.toList=some []:=by kernel_rfl
theorem nm66:(Try.f66.name == "runtime.NumGoroutine")=false:=by kernel_rfl
def q88_0:List MO:=[Ma 1 (.box (.t 0)),Ma 2 (.alloc [(.int .i64 0),(.bool false),(.int .i64 0),(.int .i64 0),(.int .i64 0)]),Ma 3 (.mv (.c (.raw .nilIface)))]
@[simp] theorem l88_0:q88_0.length=3:=rfl
instance:KR Try.f88.ntmps q88_0:=⟨[1,2],by kernel_rfl⟩
def q88_1:List MO:=[Ma 4 (.load true 5 (.t 1)),Ma 5 (.call (.c (.fn 41 [])) [(.t 4)]),Ma 6 (.un .not (.t 5))]
@[simp] theorem l88_1:q88_1.length=3:=rfl
instance:KR Try.f88.ntmps q88_1:=⟨[1,2,6],by kernel_rfl⟩
def q88_2:List MO:=[Ma 7 (.build [(.int .i64 0),(.bool false),(.int .i64 0),(.int .i64 0),(.int .i64 0)] []),Ma 8 (.mkif 132 (.c (.int .i64 27))),Mb (.store 5 (.t 2) (.t 7)),Ma 3 (.mv (.t 8))]
@[simp] theorem l88_2:q88_2.length=4:=rfl
instance:KR Try.f88.ntmps q88_2:=⟨[2,3],by kernel_rfl⟩
def q88_3:List MO:=[Ma 9 (.faddr 0 (.t 1)),Mb (.store 1 (.t 9) (.c (.int .i64 7)))]
@[simp] theorem l88_3:q88_3.length=2:=rfl
instance:KR Try.f88.ntmps q88_3:=⟨[1,2],by kernel_rfl⟩
def q88_4:List MO:=[Ma 10 (.load true 5 (.t 1)),Mb (.store 5 (.t 2) (.t 10)),Ma 3 (.mv (.c (.raw .nilIface)))]
@[simp] theorem l88_4:q88_4.length=3:=rfl
instance:KR Try.f88.ntmps q88_4:=⟨[2,3],by kernel_rfl⟩
def m88:MCode:=.seq (.reg q88_0) (.seq (.seq (.reg q88_1) (.cond (.t 6) (.seq (.reg q88_2) .ret) .skip)) (.seq (.reg q88_3) (.seq (.reg q88_4) .ret)))
theorem rc88:rcOf Try.prog Try.f88=some m88:=by kernel_rfl
theorem rv88:rRVs Try.prog Try.f88.results.toList=some [(.c true 5 2),(.t 3)]:=by kernel_rfl
theorem nm88:(Try.f88.name == "runtime.NumGoroutine")=false:=by kernel_rfl
def q90_0:List MO:=[Ma 4 (.mv (.c (.bool false)))]
@[simp] theorem l90_0:q90_0.length=1:=rfl
instance:KR Try.f90.ntmps q90_0:=⟨[0,1],by kernel_rfl⟩
def q90_1:List MO:=[Ma 5 (.mv (.t 1)),Ma 6 (.mv (.t 0)),Ma 7 (.call (.c (.fn 24 [])) [(.t 6)]),Ma 8 (.bin .leq (.t 5) (.t 7)),Ma 4 (.mv (.t 8))]
@[simp] theorem l90_1:q90_1.length=5:=rfl
instance:KR Try.f90.ntmps q90_1:=⟨[4],by kernel_rfl⟩
def m90:MCode:=.seq (.reg q90_0) (.seq (.reg q90_1) .ret)
theorem rc90:rcOf Try.prog Try.f90=some m90:=by kernel_rfl
theorem rv90:rRVs Try.prog Try.f90.results.toList=some [(.t 4)]:=by kernel_rfl
theorem nm90:(Try.f90.name == "runtime.NumGoroutine")=false:=by kernel_rfl
def q37_0:List MO:=[Ma 4 (.mv (.c (.int .i64 0)))]
@[simp] theorem l37_0:q37_0.length=1:=rfl
instance:KR Try.f37.ntmps q37_0:=⟨[0,1],by kernel_rfl⟩
def q37_1:List MO:=[Ma 7 (.mv (.t 0)),Ma 8 (.eq false .ptr (.t 7) (.c (.raw (.pointer none))))]
@[simp] theorem l37_1:q37_1.length=2:=rfl
instance:KR Try.f37.ntmps q37_1:=⟨[0,1,8],by kernel_rfl⟩
def q37_2:List MO:=[Ma 4 (.mv (.c (.int .i64 0)))]
@[simp] theorem l37_2:q37_2.length=1:=rfl
instance:KR Try.f37.ntmps q37_2:=⟨[4],by kernel_rfl⟩
def q37_3:List MO:=[Ma 9 (.mv (.t 1)),Ma 10 (.len (.t 9)),Ma 11 (.mv (.c (.int .i64 0)))]
@[simp] theorem l37_3:q37_3.length=3:=rfl
instance:KR Try.f37.ntmps q37_3:=⟨[0,9,10,11],by kernel_rfl⟩
def q37_4:List MO:=[Ma 12 (.bin .lss (.t 11) (.t 10))]
@[simp] theorem l37_4:q37_4.length=1:=rfl
instance:KR Try.f37.ntmps q37_4:=⟨[0,9,10,11,12],by kernel_rfl⟩
def q37_5:List MO:=[Ma 13 (.iaddr 1 (.t 9) (.t 11)),Ma 14 (.load false 1 (.t 13)),Ma 6 (.mv (.t 14))]
@[simp] theorem l37_5:q37_5.length=3:=rfl
instance:KR Try.f37.ntmps q37_5:=⟨[0,6,9,10,11],by kernel_rfl⟩
def q37_6:List MO:=[Ma 15 (.mv (.t 6)),Ma 16 (.bin .gtr (.t 15) (.c (.int .i64 0)))]
@[simp] theorem l37_6:q37_6.length=2:=rfl
instance:KR Try.f37.ntmps q37_6:=⟨[0,6,9,10,11,16],by kernel_rfl⟩
def q37_7:List MO:=[Ma 17 (.mv (.t 0)),Ma 18 (.mv (.t 0)),Ma 19 (.nilck (.t 18)),Ma 20 (.faddr 0 (.t 19)),Ma 21 (.load false 1 (.t 20)),Ma 22 (.mv (.t 6)),Ma 23 (.conv .u64 (.t 22)),Ma 24 (.bsl 1 2 [(.int .u64 0)] [(0,(1,(.t 21))),(1,(1,(.t 23)))]),Ma 25 (.call (.c (.fn 69 [])) [(.c (.int .u64 1000000)),(.t 24)]),Ma 26 (.nilck (.t 17)),Ma 27 (.faddr 0 (.t 26)),Mb (.store 1 (.t 27) (.t 25))]
@[simp] theorem l37_7:q37_7.length=12:=rfl
instance:KR Try.f37.ntmps q37_7:=⟨[0,9,10,11],by kernel_rfl⟩
def q37_8:List MO:=[Ma 28 (.bin .add (.t 11) (.c (.int .i64 1))),Ma 11 (.mv (.t 28))]
@[simp] theorem l37_8:q37_8.length=2:=rfl
instance:KR Try.f37.ntmps q37_8:=⟨[0,9,10,11],by kernel_rfl⟩
def q37_9:List MO:=[Ma 29 (.mv (.t 0)),Ma 30 (.nilck (.t 29)),Ma 31 (.faddr 0 (.t 30)),Ma 32 (.load false 1 (.t 31)),Ma 33 (.conv .i64 (.t 32)),Ma 4 (.mv (.t 33))]
@[simp] theorem l37_9:q37_9.length=6:=rfl
instance:KR Try.f37.ntmps q37_9:=⟨[4],by kernel_rfl⟩
def m37:MCode:=.seq (.reg q37_0) (.seq (.seq (.reg q37_1) (.cond (.t 8) (.seq (.reg q37_2) .ret) .skip)) (.seq (.seq (.reg q37_3) (.block 0 (.loop (.seq (.reg q37_4) (.seq (.cond (.t 12) .skip (.exit 0)) (.seq (.block 1 (.seq (.reg q37_5) (.seq (.reg q37_6) (.cond (.t 16) (.reg q37_7) .skip)))) (.reg q37_8))))))) (.seq (.reg q37_9) .ret)))
theorem rc37:rcOf Try.prog Try.f37=some m37:=by kernel_rfl
theorem rv37:rRVs Try.prog Try.f37.results.toList=some [(.t 4)]:=by kernel_rfl
theorem nm37:(Try.f37.name == "runtime.NumGoroutine")=false:=by kernel_rfl
def q69_0:List MO:=[Ma 4 (.mv (.c (.int .u64 0)))]
@[simp] theorem l69_0:q69_0.length=1:=rfl
instance:KR Try.f69.ntmps q69_0:=⟨[0,1],by kernel_rfl⟩
def q69_1:List MO:=[Ma 5 (.mv (.c (.int .u64 0)))]
@[simp] theorem l69_1:q69_1.length=1:=rfl
instance:KR Try.f69.ntmps q69_1:=⟨[0,1,5],by kernel_rfl⟩
def q69_2:List MO:=[Ma 8 (.mv (.t 1)),Ma 9 (.len (.t 8)),Ma 10 (.mv (.c (.int .i64 0)))]
@[simp] theorem l69_2:q69_2.length=3:=rfl
instance:KR Try.f69.ntmps q69_2:=⟨[0,5,8,9,10],by kernel_rfl⟩
def q69_3:List MO:=[Ma 11 (.bin .lss (.t 10) (.t 9))]
@[simp] theorem l69_3:q69_3.length=1:=rfl
instance:KR Try.f69.ntmps q69_3:=⟨[0,5,8,9,10,11],by kernel_rfl⟩
def q69_4:List MO:=[Ma 12 (.iaddr 1 (.t 8) (.t 10)),Ma 13 (.load false 1 (.t 12)),Ma 7 (.mv (.t 13))]
@[simp] theorem l69_4:q69_4.length=3:=rfl
instance:KR Try.f69.ntmps q69_4:=⟨[0,5,7,8,9,10],by kernel_rfl⟩
def q69_5:List MO:=[Ma 14 (.mv (.t 7)),Ma 15 (.mv (.t 0)),Ma 16 (.bin .gtr (.t 14) (.t 15)),Ma 17 (.mv (.t 16)),Mg 18 (.mv (.t 5)) 17 false,Mg 19 (.mv (.t 0)) 17 false,Mg 20 (.mv (.t 7)) 17 false,Mg 21 (.bin .sub (.t 19) (.t 20)) 17 false,Mg 22 (.bin .gtr (.t 18) (.t 21)) 17 false,Ma 23 (.pick (.t 17) (.c (.bool true)) (.t 22))]
@[simp] theorem l69_5:q69_5.length=10:=rfl
instance:KR Try.f69.ntmps q69_5:=⟨[0,5,7,8,9,10,23],by kernel_rfl⟩
def q69_6:List MO:=[Ma 24 (.mv (.t 0)),Ma 4 (.mv (.t 24))]
@[simp] theorem l69_6:q69_6.length=2:=rfl
instance:KR Try.f69.ntmps q69_6:=⟨[4],by kernel_rfl⟩
def q69_7:List MO:=[Ma 25 (.mv (.t 5)),Ma 26 (.mv (.t 7)),Ma 27 (.bin .add (.t 25) (.t 26)),Ma 5 (.mv (.t 27))]
@[simp] theorem l69_7:q69_7.length=4:=rfl
instance:KR Try.f69.ntmps q69_7:=⟨[0,5,8,9,10],by kernel_rfl⟩
def q69_8:List MO:=[Ma 28 (.bin .add (.t 10) (.c (.int .i64 1))),Ma 10 (.mv (.t 28))]
@[simp] theorem l69_8:q69_8.length=2:=rfl
instance:KR Try.f69.ntmps q69_8:=⟨[0,5,8,9,10],by kernel_rfl⟩
def q69_9:List MO:=[Ma 29 (.mv (.t 5)),Ma 30 (.mv (.t 0)),Ma 31 (.mn [(.t 29),(.t 30)]),Ma 4 (.mv (.t 31))]
@[simp] theorem l69_9:q69_9.length=4:=rfl
instance:KR Try.f69.ntmps q69_9:=⟨[4],by kernel_rfl⟩
def m69:MCode:=.seq (.reg q69_0) (.seq (.reg q69_1) (.seq (.seq (.reg q69_2) (.block 0 (.loop (.seq (.reg q69_3) (.seq (.cond (.t 11) .skip (.exit 0)) (.seq (.block 1 (.seq (.reg q69_4) (.seq (.seq (.reg q69_5) (.cond (.t 23) (.seq (.reg q69_6) .ret) .skip)) (.reg q69_7)))) (.reg q69_8))))))) (.seq (.reg q69_9) .ret)))
theorem rc69:rcOf Try.prog Try.f69=some m69:=by kernel_rfl
theorem rv69:rRVs Try.prog Try.f69.results.toList=some [(.t 4)]:=by kernel_rfl
theorem nm69:(Try.f69.name == "runtime.NumGoroutine")=false:=by kernel_rfl
end Go.W

namespace Go.W
open Go.Proofs
set_option linter.unusedSimpArgs false
set_option linter.unusedVariables false
set_option maxHeartbeats 8000000
attribute [local irreducible] Wm
attribute [local simp] nmap lkp mkPl prs prsL prT ddL idL CRenL CRen Ren RenL NObj.none CRenLL
def expireS (s:StZ):StZ×Int:=if looseZ s.k=false then (zeroS,27) else ({ s with k:=7 },0)
def d88:List AV→List NObj→Option AV
 | [.agg [.int .i64 k,.bool fl,.int .i64 sg,.int .i64 sl,.int .i64 sf]],[]=>some (errA (expireS ⟨k,fl,sg,sl,sf⟩).1 (expireS ⟨k,fl,sg,sl,sf⟩).2)
 | _,_=>none
theorem ok88:ROk d88:=by
 intro xs os r h
 unfold d88 at h
 (repeat' (split at h))<;>first|(cases h;done)|(injection h with h;subst h;unfold errA stA;split<;>simp)
theorem s88:Sound Try.prog 88 (rdS d88 ok88):=by
 refine rd_sound Try.func88 nm88 rc88 rv88 ok88 fun xs os r h vs ρ0 hvs=>⟨xs,?_,fun _ h=>h,fun w0 S hS=>?_⟩
 ·unfold d88 at h
  (repeat' (split at h))<;>first|(cases h;done)|exact Nat.le_of_ble_eq_true rfl
 unfold d88 at h
 split at h
 ·rename_i k fl sg sl sf
  injection h with h
  subst h
  have hE:SoundAll Try.prog (EL [(41,rdS d41 ok41)]):=EL_sound (by simp only[List.mem_cons,List.not_mem_nil,or_false,forall_eq_or_imp,forall_eq];exact s41)
  by_cases h1:looseZ k=false
  ·unfold m88
   repeat' with_reducible (first
    | refine ZR.h ?_ | refine zI (by decide) ?_
    | (refine zK hE ?_;intro K hK;simp[KR.ks,q88_0,q88_1,q88_2,q88_3,q88_4,h1,expireS,errA,stA,zeroS,d41];(repeat' (first | refine hK _ _ ?_ | refine And.intro ?_ ?_ | (intro hc;try subst hc)))<;>(try clear hK K))
    | (refine zJ (b:=_) (by with_unfolding_all rfl) (fun hc=>?_) (fun hc=>?_)<;>simp at hc<;>(try subst hc)))
   all_goals first|(simp;done)|(simp at *;omega)|((try simp[h1,expireS,errA,stA,zeroS]);refine Imp.auto (by kernel_rfl) ?_ ?_<;>simp[NLe,h1,expireS,errA,stA,zeroS])
  ·have h1':looseZ k=true:=by simpa using h1
   unfold m88
   repeat' with_reducible (first
    | refine ZR.h ?_ | refine zI (by decide) ?_
    | (refine zK hE ?_;intro K hK;simp[KR.ks,q88_0,q88_1,q88_2,q88_3,q88_4,h1',expireS,errA,stA,zeroS,d41];(repeat' (first | refine hK _ _ ?_ | refine And.intro ?_ ?_ | (intro hc;try subst hc)))<;>(try clear hK K))
    | (refine zJ (b:=_) (by with_unfolding_all rfl) (fun hc=>?_) (fun hc=>?_)<;>simp at hc<;>(try subst hc)))
   all_goals first|(simp;done)|(simp at *;omega)|((try simp[h1',expireS,errA,stA,zeroS]);refine Imp.auto (by kernel_rfl) ?_ ?_<;>simp[NLe,h1',expireS,errA,stA,zeroS])
 ·cases h
def d90:List AV→Option Ans
 | [.op _ [.int .u64 t],.int .i64 u]=>if 0≤t∧t≤1000000 then some ⟨.bool (decide (u≤t)),[.free]⟩ else none
 | _=>none
theorem ok90:NOk [(1,false)] d90:=by
 intro xs a h
 unfold d90 at h
 (repeat' (split at h))<;>first|(cases h;done)|(injection h with h;subst h;refine ⟨Ends_of ?_,?_⟩<;>simp)
theorem s90:Sound Try.prog 90 (nestS [(1,false)] d90 ok90):=by
 refine nest_sound Try.func90 nm90 rc90 rv90 ok90 (fun xs a h=>?_) fun xs a h w0 S hS=>?_
 ·unfold d90 at h
  (repeat' (split at h))<;>first|(cases h;done)|exact Nat.le_of_ble_eq_true rfl
 unfold d90 at h
 split at h
 ·split at h
  ·rename_i u0 t u hcond
   injection h with h
   subst h
   have hE:SoundAll Try.prog (EL [(24,nestS [(1,false)] d24 ok24)]):=EL_sound (by simp only[List.mem_cons,List.not_mem_nil,or_false,forall_eq_or_imp,forall_eq];exact s24)
   unfold m90
   repeat' with_reducible (first
    | refine ZR.h ?_ | refine zI (by decide) ?_
    | (refine zK hE ?_;intro K hK;simp[KR.ks,q90_0,q90_1,hcond,d24];(repeat' (first | refine hK _ _ ?_ | refine And.intro ?_ ?_ | (intro hc;try subst hc)))<;>(try clear hK K))
    | (refine zJ (b:=_) (by with_unfolding_all rfl) (fun hc=>?_) (fun hc=>?_)<;>simp at hc<;>(try subst hc)))
   all_goals first|(simp;done)|(simp at *;omega)|((try simp);refine Imp.auto (by kernel_rfl) ?_ ?_<;>simp[NLe])
  ·cases h
 ·cases h
def addZ (m a b:Int):Int:=if m<a then m else if m<b then m else if m - b<a then m else a+b
def d69:List AV→List NObj→Option AV
 | [.int .u64 m,.sl (.top 0) 0 2],[.view 0 1 [[.int .u64 a],[.int .u64 b]]]=>if 0≤m∧m≤1000000∧0≤a∧a≤1000000∧0≤b∧b≤1000000 then some (.int .u64 (addZ m a b)) else none
 | _,_=>none
theorem ok69:ROk d69:=by
 intro xs os r h
 unfold d69 at h
 (repeat' (split at h))<;>first|(cases h;done)|(injection h with h;subst h;simp)
theorem s69:Sound Try.prog 69 (rdS d69 ok69):=by
 refine rd_sound Try.func69 nm69 rc69 rv69 ok69 fun xs os r h vs ρ0 hvs=>⟨xs,?_,fun _ h=>h,fun w0 S hS=>?_⟩
 ·unfold d69 at h
  (repeat' (split at h))<;>first|(cases h;done)|exact Nat.le_of_ble_eq_true rfl
 unfold d69 at h
 split at h
 ·split at h
  ·rename_i m a b hcond
   injection h with h
   subst h
   have hE:SoundAll Try.prog (EL []):=EL_sound (by simp)
   obtain ⟨m0,m1,a0,a1,b0,b1⟩:=hcond
   have wk1:IntKind.wrap .i64 1=1:=by rfl
   have wk2:IntKind.wrap .i64 2=2:=by rfl
   have w0:IntKind.wrap .u64 m=m:=u64_wrap (by omega) (by omega)
   have wa:IntKind.wrap .u64 a=a:=u64_wrap (by omega) (by omega)
   have q1:¬ (m<0):=by omega
   by_cases h1:m<a
   ·have e1:addZ m a b=m:=if_pos h1
    unfold m69
    repeat' with_reducible (first
     | refine ZR.h ?_ | refine zI (by decide) ?_
     | (refine zK hE ?_;intro K hK;simp[KR.ks,q69_0,q69_1,q69_2,q69_3,q69_4,q69_5,q69_6,q69_7,q69_8,q69_9,wk1,wk2,h1,e1,w0];(repeat' (first | refine hK _ _ ?_ | refine And.intro ?_ ?_ | (intro hc;try subst hc)))<;>(try clear hK K))
     | (refine zJ (b:=_) (by with_unfolding_all rfl) (fun hc=>?_) (fun hc=>?_)<;>simp at hc<;>(try subst hc)))
    all_goals (try refine Wm_unroll 3 ?_)
    repeat' with_reducible (first
     | refine ZR.h ?_ | refine zI (by decide) ?_
     | (refine zK hE ?_;intro K hK;simp[KR.ks,q69_0,q69_1,q69_2,q69_3,q69_4,q69_5,q69_6,q69_7,q69_8,q69_9,wk1,wk2,h1,e1,w0];(repeat' (first | refine hK _ _ ?_ | refine And.intro ?_ ?_ | (intro hc;try subst hc)))<;>(try clear hK K))
     | (refine zJ (b:=_) (by with_unfolding_all rfl) (fun hc=>?_) (fun hc=>?_)<;>simp at hc<;>(try subst hc)))
    all_goals first|(simp;done)|(simp at *;omega)|((try simp[e1]);refine Imp.auto (by kernel_rfl) ?_ ?_<;>simp[NLe,e1])
   ·have ws:IntKind.wrap .u64 (m - a)=m - a:=u64_wrap (by omega) (by omega)
    have q2:¬ (m - a<0):=by omega
    by_cases h2:m<b
    ·have e1:addZ m a b=m:=by unfold addZ;rw[if_neg h1,if_pos h2]
     unfold m69
     repeat' with_reducible (first
      | refine ZR.h ?_ | refine zI (by decide) ?_
      | (refine zK hE ?_;intro K hK;simp[KR.ks,q69_0,q69_1,q69_2,q69_3,q69_4,q69_5,q69_6,q69_7,q69_8,q69_9,wk1,wk2,h1,h2,e1,w0,wa,ws,q1,q2];(repeat' (first | refine hK _ _ ?_ | refine And.intro ?_ ?_ | (intro hc;try subst hc)))<;>(try clear hK K))
      | (refine zJ (b:=_) (by with_unfolding_all rfl) (fun hc=>?_) (fun hc=>?_)<;>simp at hc<;>(try subst hc)))
     all_goals (try refine Wm_unroll 3 ?_)
     repeat' with_reducible (first
      | refine ZR.h ?_ | refine zI (by decide) ?_
      | (refine zK hE ?_;intro K hK;simp[KR.ks,q69_0,q69_1,q69_2,q69_3,q69_4,q69_5,q69_6,q69_7,q69_8,q69_9,wk1,wk2,h1,h2,e1,w0,wa,ws,q1,q2];(repeat' (first | refine hK _ _ ?_ | refine And.intro ?_ ?_ | (intro hc;try subst hc)))<;>(try clear hK K))
      | (refine zJ (b:=_) (by with_unfolding_all rfl) (fun hc=>?_) (fun hc=>?_)<;>simp at hc<;>(try subst hc)))
     all_goals first|(simp;done)|(simp at *;omega)|((try simp[e1]);refine Imp.auto (by kernel_rfl) ?_ ?_<;>simp[NLe,e1])
    ·have wb:IntKind.wrap .u64 (m - b)=m - b:=u64_wrap (by omega) (by omega)
     by_cases h3:m - b<a
     ·have e1:addZ m a b=m:=by unfold addZ;rw[if_neg h1,if_neg h2,if_pos h3]
      unfold m69
      repeat' with_reducible (first
       | refine ZR.h ?_ | refine zI (by decide) ?_
       | (refine zK hE ?_;intro K hK;simp[KR.ks,q69_0,q69_1,q69_2,q69_3,q69_4,q69_5,q69_6,q69_7,q69_8,q69_9,wk1,wk2,h1,h2,h3,e1,w0,wa,ws,wb,q1,q2];(repeat' (first | refine hK _ _ ?_ | refine And.intro ?_ ?_ | (intro hc;try subst hc)))<;>(try clear hK K))
       | (refine zJ (b:=_) (by with_unfolding_all rfl) (fun hc=>?_) (fun hc=>?_)<;>simp at hc<;>(try subst hc)))
      all_goals (try refine Wm_unroll 3 ?_)
      repeat' with_reducible (first
       | refine ZR.h ?_ | refine zI (by decide) ?_
       | (refine zK hE ?_;intro K hK;simp[KR.ks,q69_0,q69_1,q69_2,q69_3,q69_4,q69_5,q69_6,q69_7,q69_8,q69_9,wk1,wk2,h1,h2,h3,e1,w0,wa,ws,wb,q1,q2];(repeat' (first | refine hK _ _ ?_ | refine And.intro ?_ ?_ | (intro hc;try subst hc)))<;>(try clear hK K))
       | (refine zJ (b:=_) (by with_unfolding_all rfl) (fun hc=>?_) (fun hc=>?_)<;>simp at hc<;>(try subst hc)))
      all_goals first|(simp;done)|(simp at *;omega)|((try simp[e1]);refine Imp.auto (by kernel_rfl) ?_ ?_<;>simp[NLe,e1])
     ·have e1:addZ m a b=a+b:=by unfold addZ;rw[if_neg h1,if_neg h2,if_neg h3]
      have wab:IntKind.wrap .u64 (a+b)=a+b:=u64_wrap (by omega) (by omega)
      have h4:¬ m<a+b:=by omega
      unfold m69
      repeat' with_reducible (first
       | refine ZR.h ?_ | refine zI (by decide) ?_
       | (refine zK hE ?_;intro K hK;simp[KR.ks,q69_0,q69_1,q69_2,q69_3,q69_4,q69_5,q69_6,q69_7,q69_8,q69_9,wk1,wk2,h1,h2,h3,h4,e1,w0,wa,ws,wb,wab,q1,q2];(repeat' (first | refine hK _ _ ?_ | refine And.intro ?_ ?_ | (intro hc;try subst hc)))<;>(try clear hK K))
       | (refine zJ (b:=_) (by with_unfolding_all rfl) (fun hc=>?_) (fun hc=>?_)<;>simp at hc<;>(try subst hc)))
      all_goals (try refine Wm_unroll 3 ?_)
      repeat' with_reducible (first
       | refine ZR.h ?_ | refine zI (by decide) ?_
       | (refine zK hE ?_;intro K hK;simp[KR.ks,q69_0,q69_1,q69_2,q69_3,q69_4,q69_5,q69_6,q69_7,q69_8,q69_9,wk1,wk2,h1,h2,h3,h4,e1,w0,wa,ws,wb,wab,q1,q2];(repeat' (first | refine hK _ _ ?_ | refine And.intro ?_ ?_ | (intro hc;try subst hc)))<;>(try clear hK K))
       | (refine zJ (b:=_) (by with_unfolding_all rfl) (fun hc=>?_) (fun hc=>?_)<;>simp at hc<;>(try subst hc)))
      all_goals first|(simp;done)|(simp at *;omega)|((try simp[e1]);refine Imp.auto (by kernel_rfl) ?_ ?_<;>simp[NLe,e1])
  ·cases h
 ·cases h
end Go.W

