/- The resolved code of the functions, by a program. Tries that mix: the lists that a walk meets. -/
import Derived.Test.YtidbbnkpglggdaaPqA
import Derived.Test.YtidbbnkpglggdaaPyI
namespace Go.W
open Go.Proofs
set_option maxRecDepth 100000
def q6_0:List MO:=[Ma 4 (.box (.t 0)),Ma 8 (.mv (.c (.bool false)))]
@[simp] theorem l6_0:q6_0.length=2:=rfl
instance:KR Try.f6.ntmps q6_0:=⟨[1,2,3,4],by kernel_rfl⟩
def q6_1:List MO:=[Ma 31 (.load true 7 (.t 4)),Ma 32 (.mv (.t 1)),Ma 33 (.call (.c (.fn 9 [])) [(.t 31),(.t 32)]),Ma 30 (.mv (.t 33)),Ma 34 (.ext (.t 30) 0),Ma 35 (.ext (.t 30) 1),Ma 36 (.ext (.t 30) 2),Ma 9 (.mv (.t 34)),Ma 10 (.mv (.t 35)),Ma 11 (.mv (.t 36))]
@[simp] theorem l6_1:q6_1.length=10:=rfl
instance:KR Try.f6.ntmps q6_1:=⟨[2,3,9,10,11],by kernel_rfl⟩
def q6_2:List MO:=[Ma 37 (.mv (.t 11)),Ma 38 (.un .not (.t 37)),Ma 39 (.mv (.t 38)),Mg 40 (.mv (.t 2)) 39 false,Mg 41 (.len (.t 40)) 39 false,Mg 42 (.bin .gtr (.t 41) (.c (.int .i64 6))) 39 false,Ma 43 (.pick (.t 39) (.c (.bool true)) (.t 42))]
@[simp] theorem l6_2:q6_2.length=7:=rfl
instance:KR Try.f6.ntmps q6_2:=⟨[2,3,9,10,43],by kernel_rfl⟩
def q6_3:List MO:=[Ma 44 (.call (.c (.fn 10 [])) []),Ma 8 (.mv (.t 44))]
@[simp] theorem l6_3:q6_3.length=2:=rfl
instance:KR Try.f6.ntmps q6_3:=⟨[8],by kernel_rfl⟩
def q6_4:List MO:=[Ma 12 (.mv (.c .nsl))]
@[simp] theorem l6_4:q6_4.length=1:=rfl
instance:KR Try.f6.ntmps q6_4:=⟨[2,3,9,10,12],by kernel_rfl⟩
def q6_5:List MO:=[Ma 45 (.mv (.t 2)),Ma 46 (.len (.t 45)),Ma 47 (.mv (.c (.int .i64 0)))]
@[simp] theorem l6_5:q6_5.length=3:=rfl
instance:KR Try.f6.ntmps q6_5:=⟨[3,9,10,12,45,46,47],by kernel_rfl⟩
def q6_6:List MO:=[Ma 48 (.bin .lss (.t 47) (.t 46))]
@[simp] theorem l6_6:q6_6.length=1:=rfl
instance:KR Try.f6.ntmps q6_6:=⟨[3,9,10,12,45,46,47,48],by kernel_rfl⟩
def q6_7:List MO:=[Ma 49 (.iaddr 5 (.t 45) (.t 47)),Ma 50 (.load true 5 (.t 49)),Ma 14 (.alloc [(.int .i64 0),(.int .i64 0),(.int .i64 0),(.int .i64 0),(.int .i64 0)]),Mb (.store 5 (.t 14) (.t 50))]
@[simp] theorem l6_7:q6_7.length=4:=rfl
instance:KR Try.f6.ntmps q6_7:=⟨[3,9,10,12,14,45,46,47],by kernel_rfl⟩
def q6_8:List MO:=[Ma 51 (.mv (.t 12)),Ma 52 (.load true 5 (.t 14)),Ma 53 (.call (.c (.fn 11 [])) [(.t 52)]),Ma 54 (.bsl 1 1 [(.raw (.pointer none))] [(0,(1,(.t 53)))]),Ma 55 (.app 1 8 (.t 51) (.t 54)),Ma 12 (.mv (.t 55))]
@[simp] theorem l6_8:q6_8.length=6:=rfl
instance:KR Try.f6.ntmps q6_8:=⟨[3,9,10,12,45,46,47],by kernel_rfl⟩
def q6_9:List MO:=[Ma 56 (.bin .add (.t 47) (.c (.int .i64 1))),Ma 47 (.mv (.t 56))]
@[simp] theorem l6_9:q6_9.length=2:=rfl
instance:KR Try.f6.ntmps q6_9:=⟨[3,9,10,12,45,46,47],by kernel_rfl⟩
def q6_10:List MO:=[Ma 57 (.bsl 5 0 [(.int .i64 0),(.bool false),(.int .i64 0),(.int .i64 0),(.int .i64 0)] []),Ma 58 (.mv (.t 10)),Ma 59 (.nilck (.t 58)),Ma 60 (.faddr 7 (.t 59)),Ma 61 (.load false 1 (.t 60)),Ma 62 (.app 5 40 (.t 57) (.t 61)),Ma 15 (.mv (.t 62))]
@[simp] theorem l6_10:q6_10.length=7:=rfl
instance:KR Try.f6.ntmps q6_10:=⟨[3,9,12,15],by kernel_rfl⟩
def q6_11:List MO:=[Ma 63 (.mv (.t 3)),Ma 64 (.len (.t 63)),Ma 65 (.mv (.c (.int .i64 0)))]
@[simp] theorem l6_11:q6_11.length=3:=rfl
instance:KR Try.f6.ntmps q6_11:=⟨[9,12,15,63,64,65],by kernel_rfl⟩
def q6_12:List MO:=[Ma 66 (.bin .lss (.t 65) (.t 64))]
@[simp] theorem l6_12:q6_12.length=1:=rfl
instance:KR Try.f6.ntmps q6_12:=⟨[9,12,15,63,64,65,66],by kernel_rfl⟩
def q6_13:List MO:=[Ma 67 (.mv (.t 65)),Ma 68 (.iaddr 2 (.t 63) (.t 65)),Ma 69 (.load true 2 (.t 68)),Ma 17 (.alloc [(.int .i64 0),(.int .i64 0)]),Ma 16 (.mv (.t 67)),Mb (.store 2 (.t 17) (.t 69))]
@[simp] theorem l6_13:q6_13.length=6:=rfl
instance:KR Try.f6.ntmps q6_13:=⟨[9,12,15,16,17,63,64,65],by kernel_rfl⟩
def q6_14:List MO:=[Ma 70 (.mv (.t 16)),Ma 71 (.bin .lss (.t 70) (.c (.int .i64 200))),Ma 72 (.mv (.t 71)),Mg 73 (.faddr 0 (.t 17)) 72 true,Mg 74 (.load false 1 (.t 73)) 72 true,Mg 75 (.bin .eql (.t 74) (.c (.int .i64 0))) 72 true,Ma 76 (.pick (.t 72) (.t 75) (.c (.bool false))),Ma 77 (.mv (.t 76)),Mg 78 (.mv (.t 12)) 77 true,Mg 79 (.len (.t 78)) 77 true,Mg 80 (.bin .gtr (.t 79) (.c (.int .i64 0))) 77 true,Ma 81 (.pick (.t 77) (.t 80) (.c (.bool false)))]
@[simp] theorem l6_14:q6_14.length=12:=rfl
instance:KR Try.f6.ntmps q6_14:=⟨[9,12,15,16,17,63,64,65,81],by kernel_rfl⟩
def q6_15:List MO:=[Ma 82 (.mv (.t 12)),Ma 83 (.faddr 1 (.t 17)),Ma 84 (.load false 1 (.t 83)),Ma 85 (.conv .u64 (.t 84)),Ma 86 (.mv (.t 12)),Ma 87 (.len (.t 86)),Ma 88 (.conv .u64 (.t 87)),Ma 89 (.bin .rem (.t 85) (.t 88)),Ma 90 (.conv .i64 (.t 89)),Ma 91 (.iaddr 1 (.t 82) (.t 90)),Ma 92 (.load false 1 (.t 91)),Ma 93 (.mv (.t 9)),Ma 94 (.call (.c (.fn 12 [])) [(.t 92),(.t 93)])]
@[simp] theorem l6_15:q6_15.length=13:=rfl
instance:KR Try.f6.ntmps q6_15:=⟨[9,12,15,16,17,63,64,65],by kernel_rfl⟩
def q6_16:List MO:=[Ma 95 (.mv (.t 16)),Ma 96 (.bin .lss (.t 95) (.c (.int .i64 200))),Ma 97 (.mv (.t 96)),Mg 98 (.faddr 0 (.t 17)) 97 true,Mg 99 (.load false 1 (.t 98)) 97 true,Mg 100 (.bin .eql (.t 99) (.c (.int .i64 2))) 97 true,Ma 101 (.pick (.t 97) (.t 100) (.c (.bool false))),Ma 102 (.mv (.t 101)),Mg 103 (.faddr 1 (.t 17)) 102 true,Mg 104 (.load false 1 (.t 103)) 102 true,Mg 105 (.bin .geq (.t 104) (.c (.int .i64 0))) 102 true,Ma 106 (.pick (.t 102) (.t 105) (.c (.bool false))),Ma 107 (.mv (.t 106)),Mg 108 (.faddr 1 (.t 17)) 107 true,Mg 109 (.load false 1 (.t 108)) 107 true,Mg 110 (.mv (.t 15)) 107 true,Mg 111 (.len (.t 110)) 107 true,Mg 112 (.bin .lss (.t 109) (.t 111)) 107 true,Ma 113 (.pick (.t 107) (.t 112) (.c (.bool false)))]
@[simp] theorem l6_16:q6_16.length=19:=rfl
instance:KR Try.f6.ntmps q6_16:=⟨[9,12,15,17,63,64,65,113],by kernel_rfl⟩
def q6_17:List MO:=[Ma 115 (.mv (.t 9)),Ma 116 (.faddr 1 (.t 17)),Ma 117 (.load false 1 (.t 116)),Ma 118 (.call (.c (.fn 14 [])) [(.t 115),(.t 117)]),Ma 114 (.mv (.t 118)),Ma 119 (.ext (.t 114) 0),Ma 120 (.ext (.t 114) 1),Ma 19 (.alloc [(.int .i64 0),(.bool false),(.int .i64 0),(.int .i64 0),(.int .i64 0)]),Ma 18 (.mv (.t 119)),Mb (.store 5 (.t 19) (.t 120))]
@[simp] theorem l6_17:q6_17.length=10:=rfl
instance:KR Try.f6.ntmps q6_17:=⟨[9,12,15,17,18,19,63,64,65],by kernel_rfl⟩
def q6_18:List MO:=[Ma 122 (.load true 5 (.t 19)),Ma 123 (.call (.c (.fn 25 [])) [(.t 122)]),Ma 121 (.mv (.t 123)),Ma 124 (.ext (.t 121) 0),Ma 125 (.ext (.t 121) 1),Ma 20 (.alloc [(.int .i64 0),(.bool false),(.int .i64 0),(.int .i64 0),(.int .i64 0)]),Mb (.store 5 (.t 20) (.t 124)),Ma 21 (.mv (.t 125))]
@[simp] theorem l6_18:q6_18.length=8:=rfl
instance:KR Try.f6.ntmps q6_18:=⟨[9,12,15,17,18,19,20,21,63,64,65],by kernel_rfl⟩
def q6_19:List MO:=[Ma 126 (.mv (.t 21)),Ma 127 (.eq false .iface (.t 126) (.c (.raw .nilIface))),Ma 128 (.mv (.t 127)),Mg 129 (.faddr 1 (.t 19)) 128 true,Mg 130 (.load false 1 (.t 129)) 128 true,Mg 131 (.un .not (.t 130)) 128 true,Ma 132 (.pick (.t 128) (.t 131) (.c (.bool false)))]
@[simp] theorem l6_19:q6_19.length=7:=rfl
instance:KR Try.f6.ntmps q6_19:=⟨[9,12,15,17,18,20,63,64,65,132],by kernel_rfl⟩
def q6_20:List MO:=[Ma 133 (.mv (.t 9)),Ma 134 (.faddr 1 (.t 17)),Ma 135 (.load false 1 (.t 134)),Ma 136 (.mv (.t 18)),Ma 137 (.load true 5 (.t 20)),Ma 138 (.call (.c (.fn 26 [])) [(.t 133),(.t 135),(.t 136),(.t 137)])]
@[simp] theorem l6_20:q6_20.length=6:=rfl
instance:KR Try.f6.ntmps q6_20:=⟨[9,12,15,63,64,65],by kernel_rfl⟩
def q6_21:List MO:=[Ma 139 (.bin .add (.t 65) (.c (.int .i64 1))),Ma 65 (.mv (.t 139))]
@[simp] theorem l6_21:q6_21.length=2:=rfl
instance:KR Try.f6.ntmps q6_21:=⟨[9,12,15,63,64,65],by kernel_rfl⟩
def q6_22:List MO:=[Ma 140 (.mv (.t 12)),Ma 141 (.len (.t 140)),Ma 142 (.mv (.c (.int .i64 0)))]
@[simp] theorem l6_22:q6_22.length=3:=rfl
instance:KR Try.f6.ntmps q6_22:=⟨[9,15,140,141,142],by kernel_rfl⟩
def q6_23:List MO:=[Ma 143 (.bin .lss (.t 142) (.t 141))]
@[simp] theorem l6_23:q6_23.length=1:=rfl
instance:KR Try.f6.ntmps q6_23:=⟨[9,15,140,141,142,143],by kernel_rfl⟩
def q6_24:List MO:=[Ma 144 (.iaddr 1 (.t 140) (.t 142)),Ma 145 (.load false 1 (.t 144)),Ma 23 (.mv (.t 145))]
@[simp] theorem l6_24:q6_24.length=3:=rfl
instance:KR Try.f6.ntmps q6_24:=⟨[9,15,23,140,141,142],by kernel_rfl⟩
def q6_25:List MO:=[Ma 146 (.mv (.t 23)),Ma 147 (.call (.c (.fn 13 [])) [(.t 146)]),Ma 148 (.un .not (.t 147))]
@[simp] theorem l6_25:q6_25.length=3:=rfl
instance:KR Try.f6.ntmps q6_25:=⟨[9,15,23,140,141,142,148],by kernel_rfl⟩
def q6_26:List MO:=[Ma 149 (.mv (.t 23)),Ma 150 (.mv (.t 9)),Ma 151 (.call (.c (.fn 12 [])) [(.t 149),(.t 150)])]
@[simp] theorem l6_26:q6_26.length=3:=rfl
instance:KR Try.f6.ntmps q6_26:=⟨[9,15,23,140,141,142],by kernel_rfl⟩
def q6_27:List MO:=[Ma 152 (.bin .add (.t 142) (.c (.int .i64 1))),Ma 142 (.mv (.t 152))]
@[simp] theorem l6_27:q6_27.length=2:=rfl
instance:KR Try.f6.ntmps q6_27:=⟨[9,15,140,141,142],by kernel_rfl⟩
def q6_28:List MO:=[Ma 153 (.mv (.t 15)),Ma 154 (.len (.t 153)),Ma 155 (.mks 1 8 [(.int .i64 0)] (.t 154) (.t 154)),Ma 24 (.mv (.t 155))]
@[simp] theorem l6_28:q6_28.length=4:=rfl
instance:KR Try.f6.ntmps q6_28:=⟨[9,15,24],by kernel_rfl⟩
def q6_29:List MO:=[Ma 156 (.mv (.t 9)),Ma 157 (.nilck (.t 156)),Ma 158 (.faddr 9 (.t 157)),Ma 159 (.load false 1 (.t 158)),Ma 160 (.len (.t 159)),Ma 161 (.mv (.c (.int .i64 0)))]
@[simp] theorem l6_29:q6_29.length=6:=rfl
instance:KR Try.f6.ntmps q6_29:=⟨[9,15,24,159,160,161],by kernel_rfl⟩
def q6_30:List MO:=[Ma 162 (.bin .lss (.t 161) (.t 160))]
@[simp] theorem l6_30:q6_30.length=1:=rfl
instance:KR Try.f6.ntmps q6_30:=⟨[9,15,24,159,160,161,162],by kernel_rfl⟩
def q6_31:List MO:=[Ma 163 (.iaddr 14 (.t 159) (.t 161)),Ma 164 (.load true 14 (.t 163)),Ma 26 (.alloc [(.int .i64 0),(.int .i64 0),(.int .i64 0),(.int .i64 0),(.int .i64 0),(.int .i64 0),(.int .i64 0),(.int .i64 0),(.int .i64 0),(.int .i64 0),(.int .i64 0),(.int .i64 0),(.int .i64 0),(.int .i64 0)]),Mb (.store 14 (.t 26) (.t 164))]
@[simp] theorem l6_31:q6_31.length=4:=rfl
instance:KR Try.f6.ntmps q6_31:=⟨[9,15,24,26,159,160,161],by kernel_rfl⟩
def q6_32:List MO:=[Ma 165 (.faddr 0 (.t 26)),Ma 166 (.load false 1 (.t 165)),Ma 167 (.bin .eql (.t 166) (.c (.int .i64 2)))]
@[simp] theorem l6_32:q6_32.length=3:=rfl
instance:KR Try.f6.ntmps q6_32:=⟨[9,15,24,26,159,160,161,167],by kernel_rfl⟩
def q6_33:List MO:=[Ma 168 (.faddr 1 (.t 26)),Ma 169 (.load false 1 (.t 168)),Ma 170 (.bin .lss (.t 169) (.c (.int .i64 0))),Ma 171 (.mv (.t 170)),Mg 172 (.faddr 3 (.t 26)) 171 false,Mg 173 (.load false 1 (.t 172)) 171 false,Mg 174 (.bin .lss (.t 173) (.c (.int .i64 0))) 171 false,Ma 175 (.pick (.t 171) (.c (.bool true)) (.t 174)),Ma 176 (.mv (.t 175)),Mg 177 (.faddr 1 (.t 26)) 176 false,Mg 178 (.load false 1 (.t 177)) 176 false,Mg 179 (.mv (.t 24)) 176 false,Mg 180 (.len (.t 179)) 176 false,Mg 181 (.bin .geq (.t 178) (.t 180)) 176 false,Ma 182 (.pick (.t 176) (.c (.bool true)) (.t 181)),Ma 183 (.mv (.t 182)),Mg 184 (.faddr 3 (.t 26)) 183 false,Mg 185 (.load false 1 (.t 184)) 183 false,Mg 186 (.mv (.t 24)) 183 false,Mg 187 (.len (.t 186)) 183 false,Mg 188 (.bin .geq (.t 185) (.t 187)) 183 false,Ma 189 (.pick (.t 183) (.c (.bool true)) (.t 188))]
@[simp] theorem l6_33:q6_33.length=22:=rfl
instance:KR Try.f6.ntmps q6_33:=⟨[9,15,24,26,159,160,161,189],by kernel_rfl⟩
def q6_34:List MO:=[Ma 8 (.mv (.c (.bool false)))]
@[simp] theorem l6_34:q6_34.length=1:=rfl
instance:KR Try.f6.ntmps q6_34:=⟨[8],by kernel_rfl⟩
def q6_35:List MO:=[Ma 190 (.mv (.t 24)),Ma 191 (.faddr 1 (.t 26)),Ma 192 (.load false 1 (.t 191)),Ma 193 (.iaddr 1 (.t 190) (.t 192)),Ma 194 (.load false 1 (.t 193)),Ma 195 (.faddr 10 (.t 26)),Ma 196 (.load false 1 (.t 195)),Ma 197 (.bin .add (.t 194) (.t 196)),Ma 198 (.iaddr 1 (.t 190) (.t 192)),Mb (.store 1 (.t 198) (.t 197))]
@[simp] theorem l6_35:q6_35.length=10:=rfl
def p6_35:List (List Nat):=[[],[],[1],[0,2],[3],[],[5],[4,6],[0,2,0,1,2,3,4,5,6,7],[8,7,0,1,2,3,4,5,6,7]]
instance:KD Try.f6.ntmps q6_35 p6_35:=⟨[[],[],[1],[0,1,2],[0,1,2,3],[],[5],[0,1,2,3,4,5,6],[0,1,2,3,4,5,6,7],[0,1,2,3,4,5,6,7,8]],[9,15,24,26,159,160,161],by kernel_rfl⟩
def q6_36:List MO:=[Ma 199 (.mv (.t 24)),Ma 200 (.faddr 3 (.t 26)),Ma 201 (.load false 1 (.t 200)),Ma 202 (.iaddr 1 (.t 199) (.t 201)),Ma 203 (.load false 1 (.t 202)),Ma 204 (.faddr 10 (.t 26)),Ma 205 (.load false 1 (.t 204)),Ma 206 (.bin .add (.t 203) (.t 205)),Ma 207 (.iaddr 1 (.t 199) (.t 201)),Mb (.store 1 (.t 207) (.t 206))]
@[simp] theorem l6_36:q6_36.length=10:=rfl
def p6_36:List (List Nat):=[[],[],[1],[0,2],[3],[],[5],[4,6],[0,2,0,1,2,3,4,5,6,7],[8,7,0,1,2,3,4,5,6,7]]
instance:KD Try.f6.ntmps q6_36 p6_36:=⟨[[],[],[1],[0,1,2],[0,1,2,3],[],[5],[0,1,2,3,4,5,6],[0,1,2,3,4,5,6,7],[0,1,2,3,4,5,6,7,8]],[9,15,24,159,160,161],by kernel_rfl⟩
def q6_37:List MO:=[Ma 208 (.bin .add (.t 161) (.c (.int .i64 1))),Ma 161 (.mv (.t 208))]
@[simp] theorem l6_37:q6_37.length=2:=rfl
instance:KR Try.f6.ntmps q6_37:=⟨[9,15,24,159,160,161],by kernel_rfl⟩
def q6_38:List MO:=[Ma 209 (.mv (.t 15)),Ma 210 (.len (.t 209)),Ma 211 (.mv (.c (.int .i64 0)))]
@[simp] theorem l6_38:q6_38.length=3:=rfl
instance:KR Try.f6.ntmps q6_38:=⟨[9,15,24,210,211],by kernel_rfl⟩
def q6_39:List MO:=[Ma 212 (.bin .lss (.t 211) (.t 210))]
@[simp] theorem l6_39:q6_39.length=1:=rfl
instance:KR Try.f6.ntmps q6_39:=⟨[9,15,24,210,211,212],by kernel_rfl⟩
def q6_40:List MO:=[Ma 213 (.mv (.t 211)),Ma 27 (.mv (.t 213))]
@[simp] theorem l6_40:q6_40.length=2:=rfl
instance:KR Try.f6.ntmps q6_40:=⟨[9,15,24,27,210,211],by kernel_rfl⟩
def q6_41:List MO:=[Ma 215 (.mv (.t 9)),Ma 216 (.mv (.t 27)),Ma 217 (.call (.c (.fn 14 [])) [(.t 215),(.t 216)]),Ma 214 (.mv (.t 217)),Ma 218 (.ext (.t 214) 0),Ma 219 (.ext (.t 214) 1),Ma 29 (.alloc [(.int .i64 0),(.bool false),(.int .i64 0),(.int .i64 0),(.int .i64 0)]),Ma 28 (.mv (.t 218)),Mb (.store 5 (.t 29) (.t 219))]
@[simp] theorem l6_41:q6_41.length=9:=rfl
instance:KR Try.f6.ntmps q6_41:=⟨[9,15,24,27,29,210,211],by kernel_rfl⟩
def q6_42:List MO:=[Ma 220 (.load true 5 (.t 29)),Ma 221 (.call (.c (.fn 16 [])) [(.t 220)]),Ma 222 (.mv (.t 221)),Mg 223 (.faddr 1 (.t 29)) 222 false,Mg 224 (.load false 1 (.t 223)) 222 false,Ma 225 (.pick (.t 222) (.c (.bool true)) (.t 224)),Ma 226 (.mv (.t 225)),Mg 227 (.faddr 3 (.t 29)) 226 false,Mg 228 (.load false 1 (.t 227)) 226 false,Mg 229 (.mv (.t 24)) 226 false,Mg 230 (.mv (.t 27)) 226 false,Mg 231 (.iaddr 1 (.t 229) (.t 230)) 226 false,Mg 232 (.load false 1 (.t 231)) 226 false,Mg 233 (.bin .add (.t 228) (.t 232)) 226 false,Mg 234 (.mv (.t 15)) 226 false,Mg 235 (.mv (.t 27)) 226 false,Mg 236 (.iaddr 5 (.t 234) (.t 235)) 226 false,Mg 237 (.faddr 3 (.t 236)) 226 false,Mg 238 (.load false 1 (.t 237)) 226 false,Mg 239 (.bin .neq (.t 233) (.t 238)) 226 false,Ma 240 (.pick (.t 226) (.c (.bool true)) (.t 239)),Ma 241 (.mv (.t 240)),Mg 242 (.faddr 3 (.t 29)) 241 false,Mg 243 (.load false 1 (.t 242)) 241 false,Mg 244 (.bin .lss (.t 243) (.c (.int .i64 0))) 241 false,Ma 245 (.pick (.t 241) (.c (.bool true)) (.t 244))]
@[simp] theorem l6_42:q6_42.length=26:=rfl
def p6_42:List (List Nat):=[[],[0],[1,1],[2],[3,2],[2,4],[5,2],[6],[7,6],[6],[6],[9,10,6],[11,6],[8,12,6],[6],[6],[14,15,6],[16,6],[17,6],[13,18,6],[6,19],[20,6],[21],[22,21],[23,21],[21,24]]
instance:KD Try.f6.ntmps q6_42 p6_42:=⟨[[],[0],[0,1],[0,1,2],[0,1,2,3],[0,1,2,3,4],[0,1,2,3,4,5],[0,1,2,3,4,5,6],[0,1,2,3,4,5,6,7],[0,1,2,3,4,5,6],[0,1,2,3,4,5,6],[0,1,2,3,4,5,6,9,10],[0,1,2,3,4,5,6,9,10,11],[0,1,2,3,4,5,6,7,8,9,10,11,12],[0,1,2,3,4,5,6],[0,1,2,3,4,5,6],[0,1,2,3,4,5,6,14,15],[0,1,2,3,4,5,6,14,15,16],[0,1,2,3,4,5,6,14,15,16,17],[0,1,2,3,4,5,6,7,8,9,10,11,12,13,14,15,16,17,18],[0,1,2,3,4,5,6,7,8,9,10,11,12,13,14,15,16,17,18,19],[0,1,2,3,4,5,6,7,8,9,10,11,12,13,14,15,16,17,18,19,20],[0,1,2,3,4,5,6,7,8,9,10,11,12,13,14,15,16,17,18,19,20,21],[0,1,2,3,4,5,6,7,8,9,10,11,12,13,14,15,16,17,18,19,20,21,22],[0,1,2,3,4,5,6,7,8,9,10,11,12,13,14,15,16,17,18,19,20,21,22,23],[0,1,2,3,4,5,6,7,8,9,10,11,12,13,14,15,16,17,18,19,20,21,22,23,24]],[9,15,24,210,211,245],by kernel_rfl⟩
def q6_43:List MO:=[Ma 8 (.mv (.c (.bool false)))]
@[simp] theorem l6_43:q6_43.length=1:=rfl
instance:KR Try.f6.ntmps q6_43:=⟨[8],by kernel_rfl⟩
def q6_44:List MO:=[Ma 246 (.bin .add (.t 211) (.c (.int .i64 1))),Ma 211 (.mv (.t 246))]
@[simp] theorem l6_44:q6_44.length=2:=rfl
instance:KR Try.f6.ntmps q6_44:=⟨[9,15,24,210,211],by kernel_rfl⟩
def q6_45:List MO:=[Ma 247 (.call (.c (.fn 10 [])) []),Ma 8 (.mv (.t 247))]
@[simp] theorem l6_45:q6_45.length=2:=rfl
instance:KR Try.f6.ntmps q6_45:=⟨[8],by kernel_rfl⟩
def m6:MCode:=.seq (.reg q6_0) (.seq (.reg q6_1) (.seq (.seq (.reg q6_2) (.cond (.t 43) (.seq (.reg q6_3) .ret) .skip)) (.seq (.reg q6_4) (.seq (.seq (.reg q6_5) (.block 0 (.loop (.seq (.reg q6_6) (.seq (.cond (.t 48) .skip (.exit 0)) (.seq (.block 1 (.seq (.reg q6_7) (.reg q6_8))) (.reg q6_9))))))) (.seq (.reg q6_10) (.seq (.seq (.reg q6_11) (.block 2 (.loop (.seq (.reg q6_12) (.seq (.cond (.t 66) .skip (.exit 2)) (.seq (.block 3 (.seq (.reg q6_13) (.seq (.seq (.reg q6_14) (.cond (.t 81) (.reg q6_15) .skip)) (.seq (.reg q6_16) (.cond (.t 113) (.seq (.reg q6_17) (.seq (.reg q6_18) (.seq (.reg q6_19) (.cond (.t 132) (.reg q6_20) .skip)))) .skip))))) (.reg q6_21))))))) (.seq (.seq (.reg q6_22) (.block 4 (.loop (.seq (.reg q6_23) (.seq (.cond (.t 143) .skip (.exit 4)) (.seq (.block 5 (.seq (.reg q6_24) (.block 6 (.loop (.seq (.seq (.reg q6_25) (.cond (.t 148) .skip (.exit 6))) (.block 7 (.reg q6_26))))))) (.reg q6_27))))))) (.seq (.reg q6_28) (.seq (.seq (.reg q6_29) (.block 8 (.loop (.seq (.reg q6_30) (.seq (.cond (.t 162) .skip (.exit 8)) (.seq (.block 9 (.seq (.reg q6_31) (.seq (.reg q6_32) (.cond (.t 167) (.seq (.seq (.reg q6_33) (.cond (.t 189) (.seq (.reg q6_34) .ret) .skip)) (.seq (.draw q6_35 p6_35) (.draw q6_36 p6_36))) .skip)))) (.reg q6_37))))))) (.seq (.seq (.reg q6_38) (.block 10 (.loop (.seq (.reg q6_39) (.seq (.cond (.t 212) .skip (.exit 10)) (.seq (.block 11 (.seq (.reg q6_40) (.seq (.reg q6_41) (.seq (.draw q6_42 p6_42) (.cond (.t 245) (.seq (.reg q6_43) .ret) .skip))))) (.reg q6_44))))))) (.seq (.reg q6_45) .ret)))))))))))
theorem rc6:rcOf Try.prog Try.f6=some m6:=by kernel_rfl
theorem rv6:rRVs Try.prog Try.f6.results.toList=some [(.t 8)]:=by kernel_rfl
theorem nm6:(Try.f6.name == "runtime.NumGoroutine")=false:=by kernel_rfl
end Go.W

namespace Go.W
open Go.Proofs
set_option linter.unusedSimpArgs false
set_option linter.unusedVariables false
set_option maxHeartbeats 8000000
def trs (Ts:List TZ):List (List AV):=Ts.map fun T=>[.op 0 (tzC T)]
theorem trs_len (Ts:List TZ):(trs Ts).length=Ts.length:=by unfold trs;rw[List.length_map]
theorem trs_get {Ts:List TZ} {k:Nat} {T:TZ} (h:Ts[k]?=some T):(trs Ts)[k]?=some [.op 0 (tzC T)]:=by unfold trs;rw[List.getElem?_map,h];rfl
theorem op_t0 (u:Nat) (T:TZ):t0L [.op u (tzC T)]=[.op 0 (tzC T)]:=by simp[t0L,AV.t0,tz_t0]
theorem op_cl (T:TZ):clL [.op 0 (tzC T)]=true:=by simp[clL,AV.cl,tz_cl]
theorem tz_tl (n:Nat) (T:TZ):tlL n (tzC T)=true:=by simp[tzC,tlL,AV.tl]
theorem trs_t0 (Ts:List TZ):t0LL (trs Ts)=trs Ts:=by
 induction Ts with
 | nil=>rfl
 | cons T l ih=>show t0L [.op 0 (tzC T)] :: t0LL (trs l)=_;rw[op_t0,ih];rfl
theorem trs_cl (Ts:List TZ):clLL (trs Ts)=true:=by
 induction Ts with
 | nil=>rfl
 | cons T l ih=>show (clL [.op 0 (tzC T)]&&clLL (trs l))=true;rw[op_cl,ih];rfl
theorem trs_tl {n:Nat} (hn:0<n) (Ts:List TZ):tlLL n (trs Ts)=true:=by
 induction Ts with
 | nil=>rfl
 | cons T l ih =>
  show (tlL n [.op 0 (tzC T)]&&tlLL n (trs l))=true
  rw[ih]
  simp[tlL,AV.tl,tz_tl,hn]
theorem t0LL_set' (l:List (List AV)) (k:Nat) (r:List AV):t0LL (l.set k r)=(t0LL l).set k (t0L r):=by
 induction l generalizing k with
 | nil=>rfl
 | cons a l ih =>
  cases k with
  | zero=>rfl
  | succ k=>show t0L a :: t0LL (l.set k r)=_;rw[ih];rfl
theorem trs_set (Ts:List TZ) (k u:Nat) (T:TZ):t0LL ((trs Ts).set k [.op u (tzC T)])=trs (Ts.set k T):=by
 rw[t0LL_set',trs_t0,op_t0]
 unfold trs
 rw[List.map_set]
theorem app_get {Ts:List TZ} {k:Nat} (h:Ts.length=k) (r:List AV):(trs Ts++[r])[k]?=some r:=by
 rw[List.getElem?_append_right (by rw[trs_len];omega),trs_len,h];simp
theorem trs_abs {Ts:List TZ} {k:Nat} (h:Ts.length=k) (r:List AV) (u:Nat) (T:TZ):t0LL ((trs Ts++[r]).set k [.op u (tzC T)])=trs (Ts++[T]):=by
 have e:(trs Ts++[r]).set k [.op u (tzC T)]=trs Ts++[[.op u (tzC T)]]:=by
  rw[List.set_append_right _ _ (by rw[trs_len];omega),trs_len,h];simp
 rw[e,t0LL_append,trs_t0]
 show trs Ts++[t0L [.op u (tzC T)]]=_
 rw[op_t0]
 unfold trs
 simp
def tzA:List AV→TZ
 | [.int .i64 w,.int .i64 x,.int .i64 g,.int .i64 y,.int .i64 s]=>tz0 w x g y s
 | _=>tz0 0 0 0 0 0
def tAm (am:List (List AV)) (k:Nat):List TZ:=(am.take k).map tzA
theorem tAm_len {am:List (List AV)} {k:Nat} (h:k≤am.length):(tAm am k).length=k:=by unfold tAm;rw[List.length_map,List.length_take];omega
theorem tAm_succ {am:List (List AV)} {k:Nat} {r:List AV} (h:am[k]?=some r):tAm am (k+1)=tAm am k++[tzA r]:=by
 unfold tAm
 rw[List.take_add_one,h]
 simp
theorem tAm_new {am:List (List AV)} {k:Nat}:∀ T,T∈tAm am k→∃ w x g y s,T=tz0 w x g y s:=by
 intro T hT
 unfold tAm at hT
 obtain ⟨r,_,rfl⟩:=List.mem_map.1 hT
 unfold tzA
 split
 ·exact ⟨_,_,_,_,_,rfl⟩
 ·exact ⟨_,_,_,_,_,rfl⟩
def aimB:List AV→Bool
 | [.int .i64 w,.int .i64 x,.int .i64 g,.int .i64 y,.int .i64 s]=>true
 | _=>false
theorem aimB_ex {r:List AV} (h:aimB r=true):∃ w x g y s:Int,r=[.int .i64 w,.int .i64 x,.int .i64 g,.int .i64 y,.int .i64 s]:=by
 unfold aimB at h
 split at h
 ·exact ⟨_,_,_,_,_,rfl⟩
 ·cases h
def actB:List AV→Bool
 | [.int .i64 k,.int .i64 n]=>true
 | _=>false
theorem actB_ex {r:List AV} (h:actB r=true):∃ k n:Int,r=[.int .i64 k,.int .i64 n]:=by
 unfold actB at h
 split at h
 ·exact ⟨_,_,rfl⟩
 ·cases h
def dn (m:Nat) (F:Int→Int):List (List AV):=(List.range m).map fun j:Nat=>[.int .i64 (IntKind.wrap .i64 (F (j:Int)))]
theorem dn_len (m:Nat) (F:Int→Int):(dn m F).length=m:=by unfold dn;rw[List.length_map,List.length_range]
theorem dn_get {m:Nat} {F:Int→Int} {j:Nat} (h:j<m):(dn m F)[j]?=some [.int .i64 (IntKind.wrap .i64 (F (j:Int)))]:=by unfold dn;rw[List.getElem?_map,List.getElem?_range h];rfl
theorem dn_zero (m:Nat) {F:Int→Int} (h:∀ i,F i=0):List.replicate m [AV.int .i64 0]=dn m F:=by
 apply List.ext_getElem?
 intro j
 by_cases hj:j<m
 ·rw[dn_get hj,List.getElem?_replicate,if_pos hj,h];rfl
 ·rw[List.getElem?_eq_none (by rw[List.length_replicate];omega),List.getElem?_eq_none (by rw[dn_len];omega)]
theorem wrap_wrap (a b:Int):IntKind.wrap .i64 (IntKind.wrap .i64 a+b)=IntKind.wrap .i64 (a+b):=by
 simp only[IntKind.wrap_i64];omega
theorem dn_set {m:Nat} {F:Int→Int} {j:Nat} (q:Int):(dn m F).set j [.int .i64 (IntKind.wrap .i64 (IntKind.wrap .i64 (F (j:Int))+q))]=dn m (fun i=>F i+if (j:Int)=i then q else 0):=by
 apply List.ext_getElem?
 intro i
 rw[List.getElem?_set]
 by_cases hi:i<m
 ·by_cases e:j=i
  ·subst e
   rw[if_pos rfl,if_pos (by rw[dn_len];exact hi),dn_get hi,wrap_wrap,if_pos rfl]
  ·rw[if_neg e,dn_get hi,dn_get hi,if_neg (by omega),Int.add_zero]
 ·have h2:(dn m (fun i=>F i+if (j:Int)=i then q else 0))[i]?=none:=List.getElem?_eq_none (by rw[dn_len];omega)
  rw[h2]
  by_cases e:j=i
  ·rw[if_pos e,if_neg (by rw[dn_len];omega)]
  ·rw[if_neg e];exact List.getElem?_eq_none (by rw[dn_len];omega)
theorem dn_t0 (m:Nat) (F:Int→Int):t0LL (dn m F)=dn m F:=by
 unfold dn
 rw[t0LL_map]
 simp[t0L,AV.t0]
theorem dn_cl (m:Nat) (F:Int→Int):clLL (dn m F)=true:=by
 unfold dn
 rw[clLL_map]
 simp[clL,AV.cl]
theorem rows_t0 (f:List AV→Bool) (hf:∀ r,f r=true→t0L r=r):∀ {l:List (List AV)},l.all f=true→t0LL l=l
 | [],_=>rfl
 | a :: l,h=>by
  simp only[List.all_cons,Bool.and_eq_true]at h
  show t0L a :: t0LL l=_
  rw[hf a h.1,rows_t0 f hf h.2]
theorem rows_cl (f:List AV→Bool) (hf:∀ r,f r=true→clL r=true):∀ {l:List (List AV)},l.all f=true→clLL l=true
 | [],_=>rfl
 | a :: l,h=>by
  simp only[List.all_cons,Bool.and_eq_true]at h
  show (clL a&&clLL l)=true
  rw[hf a h.1,rows_cl f hf h.2];rfl
theorem aim_t0 {l:List (List AV)} (h:l.all aimB=true):t0LL l=l:=rows_t0 aimB (fun r hr=>by obtain ⟨w,x,g,y,s,rfl⟩:=aimB_ex hr;simp[t0L,AV.t0]) h
theorem aim_cl {l:List (List AV)} (h:l.all aimB=true):clLL l=true:=rows_cl aimB (fun r hr=>by obtain ⟨w,x,g,y,s,rfl⟩:=aimB_ex hr;simp[clL,AV.cl]) h
theorem act_t0 {l:List (List AV)} (h:l.all actB=true):t0LL l=l:=rows_t0 actB (fun r hr=>by obtain ⟨k,n,rfl⟩:=actB_ex hr;simp[t0L,AV.t0]) h
theorem act_cl {l:List (List AV)} (h:l.all actB=true):clLL l=true:=rows_cl actB (fun r hr=>by obtain ⟨k,n,rfl⟩:=actB_ex hr;simp[clL,AV.cl]) h
theorem all_get {f:List AV→Bool} {l:List (List AV)} (h:l.all f=true) {k:Nat} (hk:k<l.length):∃ r,l[k]?=some r∧f r=true :=
 ⟨l[k],List.getElem?_eq_getElem hk,List.all_eq_true.1 h _ (List.getElem_mem hk)⟩
def tkS (W:WZ):Nat→WZ
 | 0=>W
 | i+1=>tickW (tkS W i)
theorem tkS_st (W:WZ) (x:Int):∀ i,sAt (tkS W i) x=sAt W x
 | 0=>rfl
 | i+1=>tkS_st W x i
theorem tkS_ok {W:WZ} (h:okW W=true):∀ i,okW (tkS W i)=true
 | 0=>h
 | i+1=>tick_ok (tkS_ok h i)
theorem tkS_s (W:WZ):∀ i,(tkS W i).s=W.s+i∧(tkS W i).lg=W.lg∧(tkS W i).a=W.a∧(tkS W i).b=W.b
 | 0=>by simp[tkS]
 | i+1=>by
  have:=tkS_s W i
  refine ⟨?_,this.2⟩
  show (tkS W i).s+1=_
  omega
end Go.W

namespace Go.W
open Go.Proofs
set_option linter.unusedSimpArgs false
set_option linter.unusedVariables false
set_option maxHeartbeats 8000000
attribute [local irreducible] Wm
attribute [local simp] nmap lkp mkPl prs prsL prT ddL idL CRenL CRen Ren RenL NObj.none CRenLL
def ELf:List (FuncId×Spec):=[(9,nestS [(10,false)] d9 ok9),(10,nestS [] d10 ok10),(11,nestS [] d11 ok11),(12,nestS [(35,true),(10,true)] d12 ok12),(13,nestS [(35,false)] d13 ok13),(14,nestS [(10,true)] d14 ok14),(16,rdS d16 ok16),(25,rdS d25 ok25),(26,nestS [(10,true)] d26 ok26)]
theorem ELf_ok:SoundAll Try.prog (EL ELf):=EL_sound (by
 simp only[ELf,List.mem_cons,List.not_mem_nil,or_false,forall_eq_or_imp,forall_eq]
 exact ⟨s9,s10,s11,s12,s13,s14,s16,s25,s26⟩)
theorem wz_ren {W:WZ} (h:okW W=true) (φ:NMap):CRenL φ (wzC W) (wzC W):=by
 obtain ⟨hcf,hw,hwl,hs0,ht0,ht1,hlg⟩:=okW_ex h
 simp[wzC,w_t0 hw,w_cl hw,l_t0 hlg,l_cl hlg]
def KA (am ac:List (List AV)) (a b c d e f g:Int) (SS TT:List (List AV)) (W:WZ) (k:Nat):St:=⟨[(3,.sl (.top 2) 0 ac.length),(9,.ptr (.top 3) 0 0),(10,.ptr (.top 4) 0 0),(12,.sl (.top 5) 0 k),(45,.sl (.top 1) 0 am.length),(46,.int .i64 am.length),(47,.int .i64 k)],[(1,.view 0 5 am),(2,.view 0 2 ac),(3,.cells 0 (wzC W)),(4,.cells 0 (qC a b c d e f g SS TT)),(5,.arr 0 1 (trs (tAm am k)))],6⟩
def KB (ac SS:List (List AV)) (n m:Nat) (W:WZ) (Ts:List TZ) (i:Nat):St:=⟨[(9,.ptr (.top 3) 0 0),(12,.sl (.top 4) 0 n),(15,.sl (.top 5) 0 m),(63,.sl (.top 2) 0 ac.length),(64,.int .i64 ac.length),(65,.int .i64 i)],[(2,.view 0 2 ac),(3,.cells 0 (wzC W)),(4,.arr 0 1 (trs Ts)),(5,.arr 0 5 SS)],6⟩
def KC (SS:List (List AV)) (n m:Nat) (W:WZ) (Ts:List TZ) (k:Nat):St:=⟨[(9,.ptr (.top 3) 0 0),(15,.sl (.top 5) 0 m),(140,.sl (.top 4) 0 n),(141,.int .i64 n),(142,.int .i64 k)],[(3,.cells 0 (wzC W)),(4,.arr 0 1 (trs Ts)),(5,.arr 0 5 SS)],6⟩
def KD' (SS:List (List AV)) (n m:Nat) (W:WZ) (Ts:List TZ) (k:Nat):St:=⟨[(9,.ptr (.top 3) 0 0),(15,.sl (.top 5) 0 m),(23,.ptr (.sub (.top 4) 0 k 0) 0 0),(140,.sl (.top 4) 0 n),(141,.int .i64 n),(142,.int .i64 k)],[(3,.cells 0 (wzC W)),(4,.arr 0 1 (trs Ts)),(5,.arr 0 5 SS)],6⟩
def KE (SS:List (List AV)) (m:Nat) (W:WZ) (F:Int→Int) (i:Nat):St:=⟨[(9,.ptr (.top 3) 0 0),(15,.sl (.top 4) 0 m),(24,.sl (.top 5) 0 m),(159,.sl (.sub (.top 3) 0 0 9) 0 W.lg.length),(160,.int .i64 W.lg.length),(161,.int .i64 i)],[(3,.cells 0 (wzC W)),(4,.arr 0 5 SS),(5,.arr 0 1 (dn m F))],6⟩
def KF (SS:List (List AV)) (m:Nat) (W:WZ) (F:Int→Int) (i:Nat):St:=⟨[(9,.ptr (.top 3) 0 0),(15,.sl (.top 4) 0 m),(24,.sl (.top 5) 0 m),(210,.int .i64 m),(211,.int .i64 i)],[(3,.cells 0 (wzC W)),(4,.arr 0 5 SS),(5,.arr 0 1 (dn m F))],6⟩
section
variable {w0:World} {S:Sc} {Q:Exit→St→Prop}
theorem w6F (hS:S.m=3) (hQ:∀ hl nb,Q .ret ⟨[(8,.bool true)],hl,nb⟩) {SS:List (List AV)} {m:Nat} {W:WZ} {F:Int→Int} (hW:okW W=true) (hs:W.s≤100000∧W.lg.length≤1000) (hm:(m:Int)=W.a*W.b) (hTS:t0LL SS=SS) (hCS:clLL SS=true)
  (hl:∀ j:Nat,j<m→∃ s0:StZ,SS[j]?=some (stL s0)∧0≤s0.l∧s0.l≤65535∧heldZ (stW W j).k=false∧(stW W j).fl=false∧(stW W j).l+F j=s0.l∧0≤(stW W j).l) :
  Wm Try.prog w0 S Try.f6.ntmps [] (.loop (.seq (.reg q6_39) (.seq (.cond (.t 212) .skip (.exit 10)) (.seq (.block 11 (.seq (.reg q6_40) (.seq (.reg q6_41) (.seq (.draw q6_42 p6_42) (.cond (.t 245) (.seq (.reg q6_43) .ret) .skip))))) (.reg q6_44))))) (KF SS m W F 0) (blockK 10 (thenK Try.prog w0 S Try.f6.ntmps [] (.seq (.reg q6_45) .ret) Q)):=by
 have hE:=ELf_ok
 have ab:=cfg_all (okW_ex hW).1
 refine Wm_loop (fun i=>KF SS m (tkS W i) F i) (fun i=>i≤m) (fun i=>m - i) 0 (Nat.zero_le _) (by rw[hS];exact Imp.refl _ _) ?_
 intro i hi
 replace hi:i≤m:=hi
 have hWi:=tkS_ok hW i
 have hWs:=tkS_s W i
 have hlo:loW (tkS W i)=true:=decide_eq_true (by rw[hWs.2.1];omega)
 have hz0:=wz_t0' (hWi)
 have hz1:=wz_cl' (hWi)
 have hzr:=wz_ren (hWi)
 have hdt:=dn_t0 m F
 have hdc:=dn_cl m F
 by_cases him:i<m
 ·obtain ⟨s0,g1,g2,g3,g4,g5,g6,g7⟩:=hl i him
  have h14:∀ u,d14 [.op u (wzC (tkS W i)),.int .i64 (i:Int)]=some ⟨.tup [.int .u64 (sAt (tkS W i) i),stA (stateZ (sAt (tkS W i) i))],[.cells 0 (wzC (tkS W (i+1)))]⟩:=fun u=>e14 hWi hlo (by omega) (by rw[hWs.2.2.1,hWs.2.2.2];omega) u 0 0 0 0
  have es:stateZ (sAt (tkS W i) i)=stW W i:=by rw[tkS_st];rfl
  rw[es]at h14
  have hz0b:=wz_t0' (tkS_ok hW (i+1))
  have hz1b:=wz_cl' (tkS_ok hW (i+1))
  have hzrb:=wz_ren (tkS_ok hW (i+1))
  have hdg:=dn_get (F:=F) him
  obtain ⟨⟨k,fl,gn,l,ff⟩,hst⟩:∃ s,stW W i=s:=⟨_,rfl⟩
  rw[hst]at h14 g4 g5 g6 g7
  simp only[stA]at h14 g4 g5 g6 g7
  subst g5
  have hw:IntKind.wrap .i64 (l+IntKind.wrap .i64 (F (i:Int)))=s0.l:=by simp only[IntKind.wrap_i64];omega
  have hn0:¬ (l<0):=by omega
  have ww:IntKind.wrap .i64 ((i:Int)+1)=(i:Int)+1:=wrap_in (by omega) (by omega)
  simp only[stL]at g1
  simp only[KF]
  repeat' with_reducible (first
   | refine ZR.h ?_ | refine zI (by decide) ?_
   | ((first | refine zK hE ?_ | refine zL hE mixT ?_);intro K hK;simp[KR.ks,KD.ks,KD.cl,ELf,q6_0,q6_1,q6_2,q6_3,q6_4,q6_5,q6_6,q6_7,q6_8,q6_9,q6_10,q6_11,q6_12,q6_13,q6_14,q6_15,q6_16,q6_17,q6_18,q6_19,q6_20,q6_21,q6_22,q6_23,q6_24,q6_25,q6_26,q6_27,q6_28,q6_29,q6_30,q6_31,q6_32,q6_33,q6_34,q6_35,q6_36,q6_37,q6_38,q6_39,q6_40,q6_41,q6_42,q6_43,q6_44,q6_45,hz0,hz1,hzr,hz0b,hz1b,hzrb,hdt,hdc,hTS,hCS,him,h14,hdg,g1,g4,hw,hn0,ww,d16];(repeat' (first | refine hK _ _ ?_ | refine And.intro ?_ ?_ | (intro hc;try subst hc)))<;>(try clear hK K))
   | (refine zJ (b:=_) (by with_unfolding_all rfl) (fun hc=>?_) (fun hc=>?_)<;>simp at hc<;>(try subst hc)))
  all_goals refine ⟨i+1,him,Nat.sub_lt_sub_left him (Nat.lt_succ_self i),?_⟩
  all_goals rw[hS]
  all_goals simp only[KF]
  all_goals (refine Imp.auto (by kernel_rfl) ?_ ?_<;>simp[NLe,mkPlX,hz0,hz1,hzr,hz0b,hz1b,hzrb,hdt,hdc,hTS,hCS])
 ·have hie:i=m:=by omega
  subst hie
  simp only[KF]
  repeat' with_reducible (first
   | refine ZR.h ?_ | refine zI (by decide) ?_
   | ((first | refine zK hE ?_ | refine zL hE mixT ?_);intro K hK;simp[KR.ks,KD.ks,KD.cl,ELf,q6_0,q6_1,q6_2,q6_3,q6_4,q6_5,q6_6,q6_7,q6_8,q6_9,q6_10,q6_11,q6_12,q6_13,q6_14,q6_15,q6_16,q6_17,q6_18,q6_19,q6_20,q6_21,q6_22,q6_23,q6_24,q6_25,q6_26,q6_27,q6_28,q6_29,q6_30,q6_31,q6_32,q6_33,q6_34,q6_35,q6_36,q6_37,q6_38,q6_39,q6_40,q6_41,q6_42,q6_43,q6_44,q6_45,hz0,hz1,hzr,hdt,hdc,hTS,hCS,d10];(repeat' (first | refine hK _ _ ?_ | refine And.intro ?_ ?_ | (intro hc;try subst hc)))<;>(try clear hK K))
   | (refine zJ (b:=_) (by with_unfolding_all rfl) (fun hc=>?_) (fun hc=>?_)<;>simp at hc<;>(try subst hc)))
  all_goals exact hQ _ _
end
end Go.W

namespace Go.W
open Go.Proofs
set_option linter.unusedSimpArgs false
set_option linter.unusedVariables false
set_option maxHeartbeats 8000000
attribute [local irreducible] Wm
attribute [local simp] nmap lkp mkPl prs prsL prT ddL idL CRenL CRen Ren RenL NObj.none CRenLL
section
variable {w0:World} {S:Sc} {Q:Exit→St→Prop}
theorem w6E (hS:S.m=3) (hQ:∀ hl nb,Q .ret ⟨[(8,.bool true)],hl,nb⟩) {SS:List (List AV)} {m:Nat} {W:WZ} (hW:okW W=true) (hs:W.s≤100000∧W.lg.length≤1000) (hm:(m:Int)=W.a*W.b) (hTS:t0LL SS=SS) (hCS:clLL SS=true) (hlog:LogJ m W.lg)
  (hl:∀ j:Nat,j<m→∃ s0:StZ,SS[j]?=some (stL s0)∧0≤s0.l∧s0.l≤65535∧heldZ (stW W j).k=false∧(stW W j).fl=false∧(stW W j).l+fillL j W.lg=s0.l∧0≤(stW W j).l) :
  Wm Try.prog w0 S Try.f6.ntmps [] (.loop (.seq (.reg q6_30) (.seq (.cond (.t 162) .skip (.exit 8)) (.seq (.block 9 (.seq (.reg q6_31) (.seq (.reg q6_32) (.cond (.t 167) (.seq (.seq (.reg q6_33) (.cond (.t 189) (.seq (.reg q6_34) .ret) .skip)) (.seq (.draw q6_35 p6_35) (.draw q6_36 p6_36))) .skip)))) (.reg q6_37))))) (KE SS m W (fun x=>fillL x (W.lg.take 0)) 0) (blockK 8 (thenK Try.prog w0 S Try.f6.ntmps [] (.seq (.seq (.reg q6_38) (.block 10 (.loop (.seq (.reg q6_39) (.seq (.cond (.t 212) .skip (.exit 10)) (.seq (.block 11 (.seq (.reg q6_40) (.seq (.reg q6_41) (.seq (.draw q6_42 p6_42) (.cond (.t 245) (.seq (.reg q6_43) .ret) .skip))))) (.reg q6_44))))))) (.seq (.reg q6_45) .ret)) Q)):=by
 have hE:=ELf_ok
 refine Wm_loop (fun i=>KE SS m W (fun x=>fillL x (W.lg.take i)) i) (fun i=>i≤W.lg.length) (fun i=>W.lg.length - i) 0 (Nat.zero_le _) (by rw[hS];exact Imp.refl _ _) ?_
 intro i hi
 replace hi:i≤W.lg.length:=hi
 obtain ⟨hcf,hw,hwl,hs0,ht0,ht1,hlg⟩:=okW_ex hW
 have hT:=w_t0 hw
 have hC:=w_cl hw
 have hTl:=l_t0 hlg
 have hCl:=l_cl hlg
 by_cases him:i<W.lg.length
 ·obtain ⟨r,hr⟩:∃ r,W.lg[i]?=some r:=⟨_,List.getElem?_eq_getElem him⟩
  obtain ⟨k,c,gn,o,wn,q,p,t,e,hre,hko⟩:=hlog r (List.mem_of_getElem? hr)
  have hsucc:W.lg.take (i+1)=W.lg.take i++[r]:=by rw[List.take_add_one,hr];rfl
  have ww:IntKind.wrap .i64 ((i:Int)+1)=(i:Int)+1:=wrap_in (by omega) (by omega)
  obtain ⟨F,hF⟩:∃ F:Int→Int,(fun x=>fillL x (W.lg.take i))=F:=⟨_,rfl⟩
  have hFx:∀ x,fillL x (W.lg.take i)=F x:=fun x=>by rw[← hF]
  have hdt:=dn_t0 m F
  have hdc:=dn_cl m F
  show Wm _ _ _ _ _ _ (KE SS m W (fun x=>fillL x (W.lg.take i)) i) _
  rw[hF]
  by_cases k2:k=2
  ·subst k2
   obtain ⟨c0,c1,o0,o1⟩:=hko rfl
   obtain ⟨cn,rfl⟩:=Int.eq_ofNat_of_zero_le c0
   obtain ⟨on,rfl⟩:=Int.eq_ofNat_of_zero_le o0
   have hc2:cn<m:=by omega
   have ho2:on<m:=by omega
   have hc1:¬ (m≤cn):=by omega
   have ho1:¬ (m≤on):=by omega
   have hc3:¬ ((cn:Int)<0):=by omega
   have ho3:¬ ((on:Int)<0):=by omega
   obtain ⟨F1,hF1⟩:∃ F1:Int→Int,(fun x=>F x+if (cn:Int)=x then q else 0)=F1:=⟨_,rfl⟩
   obtain ⟨F2,hF2⟩:∃ F2:Int→Int,(fun x=>F1 x+if (on:Int)=x then q else 0)=F2:=⟨_,rfl⟩
   have g1:=dn_get (F:=F) hc2
   have g2:=dn_get (F:=F1) ho2
   have g1e:∀ h,(dn m F)[cn]'h=[.int .i64 (IntKind.wrap .i64 (F (cn:Int)))]:=fun h=>by have:=g1;rw[List.getElem?_eq_getElem h]at this;exact Option.some.inj this
   have g2e:∀ h,(dn m F1)[on]'h=[.int .i64 (IntKind.wrap .i64 (F1 (on:Int)))]:=fun h=>by have:=g2;rw[List.getElem?_eq_getElem h]at this;exact Option.some.inj this
   have s1:=dn_set (m:=m) (F:=F) (j:=cn) q
   have s2:=dn_set (m:=m) (F:=F1) (j:=on) q
   rw[hF1]at s1
   rw[hF2]at s2
   have hdt1:=dn_t0 m F1
   have hdc1:=dn_cl m F1
   have hdt2:=dn_t0 m F2
   have hdc2:=dn_cl m F2
   have hdl:=dn_len m F
   have hdl1:=dn_len m F1
   have hFn:(fun x=>fillL x (W.lg.take (i+1)))=F2:=by
    funext x
    rw[hsucc,fillL_app,hFx,hre,← hF2,← hF1]
    simp only[fillL,fill_2]
    omega
   rw[hre]at hr
   have hri:W.lg[i]'him=evC 2 cn gn on wn q p t e:=by rw[List.getElem?_eq_getElem him]at hr;exact Option.some.inj hr
   simp only[evC]at hr hri
   simp only[KE,wzC]
   repeat' with_reducible (first
    | refine ZR.h ?_ | refine zI (by decide) ?_
    | ((first | refine zK hE ?_ | refine zL hE mixT ?_);intro K hK;simp[KR.ks,KD.ks,KD.cl,ELf,q6_0,q6_1,q6_2,q6_3,q6_4,q6_5,q6_6,q6_7,q6_8,q6_9,q6_10,q6_11,q6_12,q6_13,q6_14,q6_15,q6_16,q6_17,q6_18,q6_19,q6_20,q6_21,q6_22,q6_23,q6_24,q6_25,q6_26,q6_27,q6_28,q6_29,q6_30,q6_31,q6_32,q6_33,q6_34,q6_35,q6_36,q6_37,q6_38,q6_39,q6_40,q6_41,q6_42,q6_43,q6_44,q6_45,hri,hT,hC,hTl,hCl,hdt,hdc,hdt1,hdc1,hdt2,hdc2,hdl,hdl1,hTS,hCS,him,hr,hc1,hc2,hc3,ho1,ho2,ho3,g1,g2,g1e,g2e,s1,s2,ww];(repeat' (first | refine hK _ _ ?_ | refine And.intro ?_ ?_ | (intro hc;try subst hc)))<;>(try clear hK K))
    | (refine zJ (b:=_) (by with_unfolding_all rfl) (fun hc=>?_) (fun hc=>?_)<;>simp at hc<;>(try subst hc)))
   all_goals refine ⟨i+1,him,Nat.sub_lt_sub_left him (Nat.lt_succ_self i),?_⟩
   all_goals rw[hS]
   all_goals show Imp _ _ (KE SS m W (fun x=>fillL x (W.lg.take (i+1))) (i+1))
   all_goals rw[hFn]
   all_goals simp only[KE,wzC]
   all_goals (refine Imp.auto (by kernel_rfl) ?_ ?_<;>simp[NLe,mkPlX,hT,hC,hTl,hCl,hdt2,hdc2,hTS,hCS])
  ·have hFn:(fun x=>fillL x (W.lg.take (i+1)))=F:=by
    funext x
    rw[hsucc,fillL_app,hFx,hre]
    simp only[fillL]
    rw[fill_n k2]
    omega
   rw[hre]at hr
   have hri:W.lg[i]'him=evC k c gn o wn q p t e:=by rw[List.getElem?_eq_getElem him]at hr;exact Option.some.inj hr
   simp only[evC]at hr hri
   simp only[KE,wzC]
   repeat' with_reducible (first
    | refine ZR.h ?_ | refine zI (by decide) ?_
    | ((first | refine zK hE ?_ | refine zL hE mixT ?_);intro K hK;simp[KR.ks,KD.ks,KD.cl,ELf,q6_0,q6_1,q6_2,q6_3,q6_4,q6_5,q6_6,q6_7,q6_8,q6_9,q6_10,q6_11,q6_12,q6_13,q6_14,q6_15,q6_16,q6_17,q6_18,q6_19,q6_20,q6_21,q6_22,q6_23,q6_24,q6_25,q6_26,q6_27,q6_28,q6_29,q6_30,q6_31,q6_32,q6_33,q6_34,q6_35,q6_36,q6_37,q6_38,q6_39,q6_40,q6_41,q6_42,q6_43,q6_44,q6_45,hri,hT,hC,hTl,hCl,hdt,hdc,hTS,hCS,him,hr,k2,ww];(repeat' (first | refine hK _ _ ?_ | refine And.intro ?_ ?_ | (intro hc;try subst hc)))<;>(try clear hK K))
    | (refine zJ (b:=_) (by with_unfolding_all rfl) (fun hc=>?_) (fun hc=>?_)<;>simp at hc<;>(try subst hc)))
   all_goals refine ⟨i+1,him,Nat.sub_lt_sub_left him (Nat.lt_succ_self i),?_⟩
   all_goals rw[hS]
   all_goals show Imp _ _ (KE SS m W (fun x=>fillL x (W.lg.take (i+1))) (i+1))
   all_goals rw[hFn]
   all_goals simp only[KE,wzC]
   all_goals (refine Imp.auto (by kernel_rfl) ?_ ?_<;>simp[NLe,mkPlX,hT,hC,hTl,hCl,hdt,hdc,hTS,hCS])
 ·have hie:i=W.lg.length:=by omega
  subst hie
  have hF:(fun x=>fillL x (W.lg.take W.lg.length))=fun x=>fillL x W.lg:=by rw[List.take_length]
  show Wm _ _ _ _ _ _ (KE SS m W (fun x=>fillL x (W.lg.take W.lg.length)) W.lg.length) _
  rw[hF]
  have hfin:=w6F (w0:=w0) (F:=fun x=>fillL x W.lg) hS hQ hW hs hm hTS hCS hl
  obtain ⟨F,hF⟩:∃ F:Int→Int,(fun x=>fillL x W.lg)=F:=⟨_,rfl⟩
  rw[hF]at hfin⊢
  have hdt:=dn_t0 m F
  have hdc:=dn_cl m F
  simp only[KE,wzC]
  repeat' with_reducible (first
   | refine ZR.h ?_ | refine zI (by decide) ?_
   | ((first | refine zK hE ?_ | refine zL hE mixT ?_);intro K hK;simp[KR.ks,KD.ks,KD.cl,ELf,q6_0,q6_1,q6_2,q6_3,q6_4,q6_5,q6_6,q6_7,q6_8,q6_9,q6_10,q6_11,q6_12,q6_13,q6_14,q6_15,q6_16,q6_17,q6_18,q6_19,q6_20,q6_21,q6_22,q6_23,q6_24,q6_25,q6_26,q6_27,q6_28,q6_29,q6_30,q6_31,q6_32,q6_33,q6_34,q6_35,q6_36,q6_37,q6_38,q6_39,q6_40,q6_41,q6_42,q6_43,q6_44,q6_45,hT,hC,hTl,hCl,hdt,hdc,hTS,hCS];(repeat' (first | refine hK _ _ ?_ | refine And.intro ?_ ?_ | (intro hc;try subst hc)))<;>(try clear hK K))
   | (refine zJ (b:=_) (by with_unfolding_all rfl) (fun hc=>?_) (fun hc=>?_)<;>simp at hc<;>(try subst hc)))
  all_goals refine Wm_imp ?_ hfin
  all_goals rw[hS]
  all_goals simp only[KF,wzC]
  all_goals (refine Imp.auto (by kernel_rfl) ?_ ?_<;>simp[NLe,mkPlX,hT,hC,hTl,hCl,hdt,hdc,hTS,hCS])
end
end Go.W

