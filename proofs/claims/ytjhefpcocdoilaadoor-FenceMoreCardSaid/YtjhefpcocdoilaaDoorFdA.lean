/- The resolved code of the functions, by a program. -/
import Derived.Test.YtjhefpcocdoilaaDoorPqA
import Derived.Test.YtjhefpcocdoilaaDoorLaX
import Derived.Test.YtjhefpcocdoilaaDoorWbA
namespace Go.W
open Go.Proofs
set_option maxRecDepth 100000
def q3_0 : List MO := [Ma 7 (.box (.t 0)), Ma 11 (.box (.t 4)), Ma 12 (.box (.t 5)), Ma 14 (.mv (.c (.bool false)))]
@[simp] theorem l3_0 : q3_0.length = 4 := rfl
instance : KR Tryd.f3.ntmps q3_0 := ⟨[1, 2, 3, 6, 7, 11, 12], by kernel_rfl⟩
def q3_1 : List MO := [Ma 27 (.load true 7 (.t 7)), Ma 28 (.call (.c (.fn 4 [])) [(.t 27)]), Ma 26 (.mv (.t 28)), Ma 29 (.ext (.t 26) 0), Ma 30 (.ext (.t 26) 1), Ma 15 (.alloc [(.int .i64 0), (.int .i64 0), (.int .i64 0), (.int .i64 0), (.int .i64 0), (.int .i64 0), (.int .i64 0)]), Mb (.store 7 (.t 15) (.t 29)), Ma 16 (.mv (.t 30))]
@[simp] theorem l3_1 : q3_1.length = 8 := rfl
instance : KR Tryd.f3.ntmps q3_1 := ⟨[1, 2, 3, 6, 7, 11, 12, 15, 16], by kernel_rfl⟩
def q3_2 : List MO := [Ma 31 (.mv (.t 16)), Ma 32 (.eq true .iface (.t 31) (.c (.raw .nilIface))), Ma 33 (.mv (.t 32)), Mg 34 (.mv (.t 1)) 33 false, Mg 35 (.len (.t 34)) 33 false, Mg 36 (.faddr 0 (.t 7)) 33 false, Mg 37 (.load false 1 (.t 36)) 33 false, Mg 38 (.bin .neq (.t 35) (.t 37)) 33 false, Ma 39 (.pick (.t 33) (.c (.bool true)) (.t 38)), Ma 40 (.mv (.t 39)), Mg 41 (.mv (.t 1)) 40 false, Mg 42 (.call (.c (.fn 5 [])) [(.t 41)]) 40 false, Mg 43 (.bin .geq (.t 42) (.c (.int .i64 0))) 40 false, Ma 44 (.pick (.t 40) (.c (.bool true)) (.t 43)), Ma 45 (.mv (.t 44)), Mg 46 (.mv (.t 3)) 45 false, Mg 47 (.bin .lss (.t 46) (.c (.int .i64 0))) 45 false, Ma 48 (.pick (.t 45) (.c (.bool true)) (.t 47)), Ma 49 (.mv (.t 48)), Mg 50 (.mv (.t 3)) 49 false, Mg 51 (.faddr 0 (.t 7)) 49 false, Mg 52 (.load false 1 (.t 51)) 49 false, Mg 53 (.bin .geq (.t 50) (.t 52)) 49 false, Ma 54 (.pick (.t 49) (.c (.bool true)) (.t 53)), Ma 55 (.mv (.t 54)), Mg 56 (.faddr 8 (.t 11)) 55 false, Mg 57 (.load false 1 (.t 56)) 55 false, Mg 58 (.faddr 3 (.t 11)) 55 false, Mg 59 (.faddr 2 (.t 58)) 55 false, Mg 60 (.load false 1 (.t 59)) 55 false, Mg 61 (.faddr 0 (.t 12)) 55 false, Mg 62 (.load false 1 (.t 61)) 55 false, Mg 63 (.faddr 1 (.t 12)) 55 false, Mg 64 (.load false 1 (.t 63)) 55 false, Mg 65 (.faddr 2 (.t 12)) 55 false, Mg 66 (.load false 1 (.t 65)) 55 false, Mg 67 (.faddr 3 (.t 12)) 55 false, Mg 68 (.load false 1 (.t 67)) 55 false, Mg 69 (.faddr 4 (.t 12)) 55 false, Mg 70 (.load false 1 (.t 69)) 55 false, Mg 71 (.faddr 5 (.t 12)) 55 false, Mg 72 (.load false 1 (.t 71)) 55 false, Mg 73 (.mv (.t 6)) 55 false, Mg 74 (.bsl 1 9 [(.int .i64 0)] [(0, (1, (.t 57))), (1, (1, (.t 60))), (2, (1, (.t 62))), (3, (1, (.t 64))), (4, (1, (.t 66))), (5, (1, (.t 68))), (6, (1, (.t 70))), (7, (1, (.t 72))), (8, (1, (.t 73)))]) 55 false, Mg 75 (.call (.c (.fn 6 [])) [(.t 74)]) 55 false, Mg 76 (.un .not (.t 75)) 55 false, Ma 77 (.pick (.t 55) (.c (.bool true)) (.t 76))]
@[simp] theorem l3_2 : q3_2.length = 47 := rfl
instance : KR Tryd.f3.ntmps q3_2 := ⟨[1, 2, 3, 6, 11, 12, 15, 77], by kernel_rfl⟩
def q3_3 : List MO := [Ma 78 (.call (.c (.fn 7 [])) []), Ma 14 (.mv (.t 78))]
@[simp] theorem l3_3 : q3_3.length = 2 := rfl
instance : KR Tryd.f3.ntmps q3_3 := ⟨[14], by kernel_rfl⟩
def q3_4 : List MO := [Ma 17 (.mv (.c .nsl))]
@[simp] theorem l3_4 : q3_4.length = 1 := rfl
instance : KR Tryd.f3.ntmps q3_4 := ⟨[1, 2, 3, 6, 11, 12, 15, 17], by kernel_rfl⟩
def q3_5 : List MO := [Ma 79 (.mv (.t 1)), Ma 80 (.len (.t 79)), Ma 81 (.mv (.c (.int .i64 0)))]
@[simp] theorem l3_5 : q3_5.length = 3 := rfl
instance : KR Tryd.f3.ntmps q3_5 := ⟨[1, 2, 3, 6, 11, 12, 15, 17, 79, 80, 81], by kernel_rfl⟩
def q3_6 : List MO := [Ma 82 (.bin .lss (.t 81) (.t 80))]
@[simp] theorem l3_6 : q3_6.length = 1 := rfl
instance : KR Tryd.f3.ntmps q3_6 := ⟨[1, 2, 3, 6, 11, 12, 15, 17, 79, 80, 81, 82], by kernel_rfl⟩
def q3_7 : List MO := [Ma 83 (.iaddr 5 (.t 79) (.t 81)), Ma 84 (.load true 5 (.t 83)), Ma 19 (.alloc [(.int .i64 0), (.int .i64 0), (.int .i64 0), (.int .i64 0), (.int .i64 0)]), Mb (.store 5 (.t 19) (.t 84))]
@[simp] theorem l3_7 : q3_7.length = 4 := rfl
instance : KR Tryd.f3.ntmps q3_7 := ⟨[1, 2, 3, 6, 11, 12, 15, 17, 19, 79, 80, 81], by kernel_rfl⟩
def q3_8 : List MO := [Ma 85 (.faddr 0 (.t 19)), Ma 86 (.load false 1 (.t 85)), Ma 87 (.bin .gtr (.t 86) (.c (.int .i64 1073741824))), Ma 88 (.mv (.t 87)), Mg 89 (.faddr 1 (.t 19)) 88 false, Mg 90 (.load false 1 (.t 89)) 88 false, Mg 91 (.bin .gtr (.t 90) (.c (.int .i64 1073741824))) 88 false, Ma 92 (.pick (.t 88) (.c (.bool true)) (.t 91)), Ma 93 (.mv (.t 92)), Mg 94 (.faddr 2 (.t 19)) 93 false, Mg 95 (.load false 1 (.t 94)) 93 false, Mg 96 (.bin .gtr (.t 95) (.c (.int .i64 1073741824))) 93 false, Ma 97 (.pick (.t 93) (.c (.bool true)) (.t 96)), Ma 98 (.mv (.t 97)), Mg 99 (.faddr 3 (.t 19)) 98 false, Mg 100 (.load false 1 (.t 99)) 98 false, Mg 101 (.bin .gtr (.t 100) (.c (.int .i64 1073741824))) 98 false, Ma 102 (.pick (.t 98) (.c (.bool true)) (.t 101)), Ma 103 (.mv (.t 102)), Mg 104 (.faddr 4 (.t 19)) 103 false, Mg 105 (.load false 1 (.t 104)) 103 false, Mg 106 (.bin .gtr (.t 105) (.c (.int .i64 1073741824))) 103 false, Ma 107 (.pick (.t 103) (.c (.bool true)) (.t 106))]
@[simp] theorem l3_8 : q3_8.length = 23 := rfl
instance : KR Tryd.f3.ntmps q3_8 := ⟨[1, 2, 3, 6, 11, 12, 15, 17, 19, 79, 80, 81, 107], by kernel_rfl⟩
def q3_9 : List MO := [Ma 108 (.call (.c (.fn 7 [])) []), Ma 14 (.mv (.t 108))]
@[simp] theorem l3_9 : q3_9.length = 2 := rfl
instance : KR Tryd.f3.ntmps q3_9 := ⟨[14], by kernel_rfl⟩
def q3_10 : List MO := [Ma 109 (.mv (.t 2)), Ma 110 (.conv .i64 (.t 109)), Ma 20 (.mv (.t 110))]
@[simp] theorem l3_10 : q3_10.length = 3 := rfl
instance : KR Tryd.f3.ntmps q3_10 := ⟨[1, 2, 3, 6, 11, 12, 15, 17, 19, 20, 79, 80, 81], by kernel_rfl⟩
def q3_11 : List MO := [Ma 111 (.mv (.t 17)), Ma 112 (.faddr 0 (.t 19)), Ma 113 (.load false 1 (.t 112)), Ma 114 (.mv (.t 20)), Ma 115 (.bin .add (.t 113) (.t 114)), Ma 116 (.faddr 1 (.t 19)), Ma 117 (.load false 1 (.t 116)), Ma 118 (.mv (.t 20)), Ma 119 (.bin .add (.t 117) (.t 118)), Ma 120 (.faddr 2 (.t 19)), Ma 121 (.load false 1 (.t 120)), Ma 122 (.mv (.t 20)), Ma 123 (.bin .add (.t 121) (.t 122)), Ma 124 (.faddr 3 (.t 19)), Ma 125 (.load false 1 (.t 124)), Ma 126 (.mv (.t 20)), Ma 127 (.bin .add (.t 125) (.t 126)), Ma 128 (.faddr 4 (.t 19)), Ma 129 (.load false 1 (.t 128)), Ma 130 (.mv (.t 20)), Ma 131 (.bin .add (.t 129) (.t 130)), Ma 132 (.build [(.int .i64 0), (.int .i64 0), (.int .i64 0), (.int .i64 0), (.int .i64 0)] [(0, (1, (.t 115))), (1, (1, (.t 119))), (2, (1, (.t 123))), (3, (1, (.t 127))), (4, (1, (.t 131)))]), Ma 133 (.bsl 5 1 [(.int .i64 0), (.int .i64 0), (.int .i64 0), (.int .i64 0), (.int .i64 0)] [(0, (5, (.t 132)))]), Ma 134 (.app 5 40 (.t 111) (.t 133)), Ma 17 (.mv (.t 134))]
@[simp] theorem l3_11 : q3_11.length = 25 := rfl
instance : KR Tryd.f3.ntmps q3_11 := ⟨[1, 2, 3, 6, 11, 12, 15, 17, 79, 80, 81], by kernel_rfl⟩
def q3_12 : List MO := [Ma 135 (.bin .add (.t 81) (.c (.int .i64 1))), Ma 81 (.mv (.t 135))]
@[simp] theorem l3_12 : q3_12.length = 2 := rfl
instance : KR Tryd.f3.ntmps q3_12 := ⟨[1, 2, 3, 6, 11, 12, 15, 17, 79, 80, 81], by kernel_rfl⟩
def q3_13 : List MO := [Ma 137 (.load true 7 (.t 15)), Ma 138 (.mv (.t 1)), Ma 139 (.call (.c (.fn 9 [])) [(.t 138)]), Ma 140 (.call (.c (.fn 8 [])) [(.t 137), (.t 139)]), Ma 136 (.mv (.t 140)), Ma 141 (.ext (.t 136) 0), Ma 142 (.ext (.t 136) 1), Ma 21 (.mv (.t 141)), Ma 22 (.mv (.t 142))]
@[simp] theorem l3_13 : q3_13.length = 9 := rfl
def p3_13 : List (List Nat) := [[], [], [1], [0, 2, 2], [3], [4], [4], [5, 3, 0, 1, 2, 3, 4, 5], [6, 7, 0, 1, 2, 3, 4, 5, 6, 7]]
instance : KD Tryd.f3.ntmps q3_13 p3_13 := ⟨[[], [], [1], [0, 1, 2], [0, 1, 2, 3], [0, 1, 2, 3, 4], [0, 1, 2, 3, 4], [0, 1, 2, 3, 4, 5], [0, 1, 2, 3, 4, 5, 6, 7]], [3, 6, 11, 12, 15, 17, 21, 22], by kernel_rfl⟩
def q3_14 : List MO := [Ma 144 (.load true 7 (.t 15)), Ma 145 (.mv (.t 17)), Ma 146 (.call (.c (.fn 9 [])) [(.t 145)]), Ma 147 (.call (.c (.fn 8 [])) [(.t 144), (.t 146)]), Ma 143 (.mv (.t 147)), Ma 148 (.ext (.t 143) 0), Ma 149 (.ext (.t 143) 1), Ma 23 (.mv (.t 148)), Ma 24 (.mv (.t 149))]
@[simp] theorem l3_14 : q3_14.length = 9 := rfl
def p3_14 : List (List Nat) := [[], [], [1], [0, 2, 2], [3], [4], [4], [5, 3, 0, 1, 2, 3, 4, 5], [6, 7, 0, 1, 2, 3, 4, 5, 6, 7]]
instance : KD Tryd.f3.ntmps q3_14 p3_14 := ⟨[[], [], [1], [0, 1, 2], [0, 1, 2, 3], [0, 1, 2, 3, 4], [0, 1, 2, 3, 4], [0, 1, 2, 3, 4, 5], [0, 1, 2, 3, 4, 5, 6, 7]], [3, 6, 11, 12, 21, 22, 23, 24], by kernel_rfl⟩
def q3_15 : List MO := [Ma 150 (.mv (.t 21)), Ma 151 (.eq false .ptr (.t 150) (.c (.raw (.pointer none)))), Ma 152 (.mv (.t 151)), Mg 153 (.mv (.t 23)) 152 false, Mg 154 (.eq false .ptr (.t 153) (.c (.raw (.pointer none)))) 152 false, Ma 155 (.pick (.t 152) (.c (.bool true)) (.t 154)), Ma 156 (.mv (.t 155)), Mg 157 (.mv (.t 22)) 156 false, Mg 158 (.eq true .iface (.t 157) (.c (.raw .nilIface))) 156 false, Ma 159 (.pick (.t 156) (.c (.bool true)) (.t 158)), Ma 160 (.mv (.t 159)), Mg 161 (.mv (.t 24)) 160 false, Mg 162 (.eq true .iface (.t 161) (.c (.raw .nilIface))) 160 false, Ma 163 (.pick (.t 160) (.c (.bool true)) (.t 162))]
@[simp] theorem l3_15 : q3_15.length = 14 := rfl
instance : KR Tryd.f3.ntmps q3_15 := ⟨[3, 6, 11, 12, 21, 23, 163], by kernel_rfl⟩
def q3_16 : List MO := [Ma 14 (.mv (.c (.bool false)))]
@[simp] theorem l3_16 : q3_16.length = 1 := rfl
instance : KR Tryd.f3.ntmps q3_16 := ⟨[14], by kernel_rfl⟩
def q3_17 : List MO := [Ma 164 (.load true 9 (.t 11)), Ma 165 (.call (.c (.fn 10 [])) [(.t 164)]), Ma 25 (.alloc [(.int .i64 0), (.int .i64 0), (.int .i64 0), (.int .i64 0), (.int .i64 0), (.int .i64 0), (.int .i64 0), (.int .i64 0), (.int .i64 0)]), Mb (.store 9 (.t 25) (.t 165))]
@[simp] theorem l3_17 : q3_17.length = 4 := rfl
instance : KR Tryd.f3.ntmps q3_17 := ⟨[3, 6, 12, 21, 23, 25], by kernel_rfl⟩
def q3_18 : List MO := [Ma 166 (.mv (.t 21)), Ma 167 (.mv (.t 3)), Ma 168 (.load true 9 (.t 25)), Ma 169 (.load true 6 (.t 12)), Ma 170 (.mv (.t 6)), Ma 171 (.call (.c (.fn 11 [])) [(.t 166), (.t 167), (.t 168), (.t 169), (.t 170)]), Ma 172 (.eq false .iface (.t 171) (.c (.raw .nilIface))), Ma 173 (.mv (.t 172)), Mg 174 (.mv (.t 23)) 173 true, Mg 175 (.mv (.t 3)) 173 true, Mg 176 (.load true 9 (.t 25)) 173 true, Mg 177 (.load true 6 (.t 12)) 173 true, Mg 178 (.mv (.t 6)) 173 true, Mg 179 (.call (.c (.fn 11 [])) [(.t 174), (.t 175), (.t 176), (.t 177), (.t 178)]) 173 true, Mg 180 (.eq true .iface (.t 179) (.c (.raw .nilIface))) 173 true, Ma 181 (.pick (.t 173) (.t 180) (.c (.bool false))), Ma 182 (.mv (.t 181)), Mg 183 (.mv (.t 21)) 182 false, Mg 184 (.mv (.t 3)) 182 false, Mg 185 (.load true 6 (.t 12)) 182 false, Mg 186 (.call (.c (.fn 12 [])) [(.t 183), (.t 184), (.t 185)]) 182 false, Mg 187 (.mv (.t 186)) 182 false, Mg 188 (.mv (.t 23)) 187 true, Mg 189 (.mv (.t 3)) 187 true, Mg 190 (.load true 6 (.t 12)) 187 true, Mg 191 (.call (.c (.fn 12 [])) [(.t 188), (.t 189), (.t 190)]) 187 true, Mg 192 (.un .not (.t 191)) 187 true, Mg 193 (.pick (.t 187) (.t 192) (.c (.bool false))) 182 false, Ma 194 (.pick (.t 182) (.c (.bool true)) (.t 193))]
@[simp] theorem l3_18 : q3_18.length = 29 := rfl
instance : KR Tryd.f3.ntmps q3_18 := ⟨[3, 6, 12, 21, 25, 194], by kernel_rfl⟩
def q3_19 : List MO := [Ma 14 (.mv (.c (.bool false)))]
@[simp] theorem l3_19 : q3_19.length = 1 := rfl
instance : KR Tryd.f3.ntmps q3_19 := ⟨[14], by kernel_rfl⟩
def q3_20 : List MO := [Ma 195 (.faddr 0 (.t 25)), Mb (.store 1 (.t 195) (.c (.int .i64 4)))]
@[simp] theorem l3_20 : q3_20.length = 2 := rfl
instance : KR Tryd.f3.ntmps q3_20 := ⟨[3, 6, 12, 21, 25], by kernel_rfl⟩
def q3_21 : List MO := [Ma 196 (.call (.c (.fn 7 [])) []), Ma 197 (.mv (.t 196)), Mg 198 (.mv (.t 21)) 197 true, Mg 199 (.mv (.t 3)) 197 true, Mg 200 (.load true 9 (.t 25)) 197 true, Mg 201 (.load true 6 (.t 12)) 197 true, Mg 202 (.mv (.t 6)) 197 true, Mg 203 (.call (.c (.fn 11 [])) [(.t 198), (.t 199), (.t 200), (.t 201), (.t 202)]) 197 true, Mg 204 (.eq false .iface (.t 203) (.c (.raw .nilIface))) 197 true, Ma 205 (.pick (.t 197) (.t 204) (.c (.bool false))), Ma 14 (.mv (.t 205))]
@[simp] theorem l3_21 : q3_21.length = 11 := rfl
instance : KR Tryd.f3.ntmps q3_21 := ⟨[14], by kernel_rfl⟩
def m3 : MCode := .seq (.reg q3_0) (.seq (.reg q3_1) (.seq (.seq (.reg q3_2) (.cond (.t 77) (.seq (.reg q3_3) .ret) .skip)) (.seq (.reg q3_4) (.seq (.seq (.reg q3_5) (.block 0 (.loop (.seq (.reg q3_6) (.seq (.cond (.t 82) .skip (.exit 0)) (.seq (.block 1 (.seq (.reg q3_7) (.seq (.seq (.reg q3_8) (.cond (.t 107) (.seq (.reg q3_9) .ret) .skip)) (.seq (.reg q3_10) (.reg q3_11))))) (.reg q3_12))))))) (.seq (.draw q3_13 p3_13) (.seq (.draw q3_14 p3_14) (.seq (.seq (.reg q3_15) (.cond (.t 163) (.seq (.reg q3_16) .ret) .skip)) (.seq (.reg q3_17) (.seq (.seq (.reg q3_18) (.cond (.t 194) (.seq (.reg q3_19) .ret) .skip)) (.seq (.reg q3_20) (.seq (.reg q3_21) .ret)))))))))))
theorem rc3 : rcOf Tryd.prog Tryd.f3 = some m3 := by kernel_rfl
theorem rv3 : rRVs Tryd.prog Tryd.f3.results.toList = some [(.t 14)] := by kernel_rfl
theorem nm3 : (Tryd.f3.name == "runtime.NumGoroutine") = false := by kernel_rfl
end Go.W
namespace Go.W
open Go.Proofs
set_option linter.unusedSimpArgs false
set_option linter.unusedVariables false
set_option maxHeartbeats 8000000
attribute [local irreducible] Wm
attribute [local simp] nmap lkp mkPl prs prsL prT ddL idL CRenL CRen Ren RenL NObj.none CRenLL

def I5 (L : List L5) (k : Nat) : St := ⟨[(7, .sl (.top 0) 0 L.length), (8, .int .i64 L.length), (9, .int .i64 k)], [(0, .view 0 5 (l5LL L))], 1⟩
def d5 : List AV → List NObj → Option AV
  | [.sl (.top 0) 0 n], [.view 0 5 els] => (match mapV l5Of els with
    | some L => if n = els.length ∧ els.length ≤ 1000000000000 then some (.int .i64 (wrongZ L 0)) else none
    | none => none)
  | _, _ => none

theorem ok5 : ROk d5 := by
  intro xs os r h
  unfold d5 at h
  (repeat' (split at h)) <;> first | (cases h; done) | (injection h with h; subst h; simp)
theorem s5 : Sound Tryd.prog 5 (rdS d5 ok5) := by
  refine rd_sound Tryd.func5 nm5 rc5 rv5 ok5 fun xs os r h vs ρ0 hvs => ⟨xs, ?_, fun _ h => h, fun w0 S hS => ?_⟩
  · unfold d5 at h
    (repeat' (split at h)) <;> first | (cases h; done) | exact Nat.le_of_ble_eq_true rfl
  unfold d5 at h
  split at h
  · rename_i n els
    split at h
    · rename_i L hL
      obtain rfl := mapV_ex (g := l5C) (fun _ _ => l5Of_ex) hL
      clear hL
      split at h
      · rename_i hcond
        injection h with h
        subst h
        obtain ⟨rfl, hlen⟩ := hcond
        have hll : List.map l5C L = l5LL L := rfl
        rw [hll] at hvs hlen ⊢
        change S.m = 1 at hS
        have hE : SoundAll Tryd.prog (EL []) := EL_sound (by simp)
        have hT := l5_t0 L
        have hC := l5_cl L
        have hl := l5_len L
        have hD := l5_dat L
        rw [hl] at hlen
        change Wm _ _ _ _ _ _ ⟨argL 0 [.sl (.top 0) 0 (l5LL L).length], idxO 0 [.view 0 5 (l5LL L)], 1⟩ _
        unfold m5
        repeat' with_reducible (first
          | refine ZR.h ?_ | refine zI (by decide) ?_
          | (refine zK hE ?_; intro K hK; simp [KR.ks, q5_0, q5_1, q5_2, q5_3, q5_4, q5_5, q5_6, q5_7, q5_8, q5_9, q5_10, q5_11, hT, hC, hl, hD]; (repeat' (first | refine hK _ _ ?_ | refine And.intro ?_ ?_ | (intro hc; try subst hc))) <;> (try clear hK K))
          | (refine zJ (b := _) (by with_unfolding_all rfl) (fun hc => ?_) (fun hc => ?_) <;> simp at hc <;> (try subst hc)))
        all_goals (refine Wm_loop (fun k => I5 L k) (fun k => k ≤ L.length ∧ ∀ y, y ∈ L.take k → ¬ badP y) (fun k => L.length - k) 0 ⟨Nat.zero_le _, fun y hy => by simp at hy⟩ ?_ ?_)
        · simp only [I5]
          rw [hS]
          (refine Imp.auto (by kernel_rfl) ?_ ?_ <;> simp [NLe, mkPlX, hT, hC, hl])
        rintro k ⟨hk, hok⟩
        (try simp only at hk hok)
        simp only [I5]
        by_cases hkl : k < L.length
        · obtain ⟨x, hx⟩ : ∃ e, L[k]? = some e := ⟨_, List.getElem?_eq_getElem hkl⟩
          have ww : IntKind.wrap .i64 ((k : Int) + 1) = (k : Int) + 1 := wrap_in (by omega) (by omega)
          have hki : (k : Int) < (L.length : Int) := by omega
          obtain ⟨g1, g2⟩ := l5_at hx
          simp only [l5C] at g1 g2
          by_cases hb : badP x
          · have hsz : wrongZ L 0 = k := wrong_at hok hx hb
            unfold badP at hb
            repeat' with_reducible (first
              | refine ZR.h ?_ | refine zI (by decide) ?_
              | (refine zK hE ?_; intro K hK; simp [KR.ks, q5_0, q5_1, q5_2, q5_3, q5_4, q5_5, q5_6, q5_7, q5_8, q5_9, q5_10, q5_11, hT, hC, hl, hD, hkl, hki, g1, g2]; (repeat' (first | refine hK _ _ ?_ | refine And.intro ?_ ?_ | (intro hc; try subst hc))) <;> (try clear hK K))
              | (refine zJ (b := _) (by with_unfolding_all rfl) (fun hc => ?_) (fun hc => ?_) <;> simp at hc <;> (try subst hc)))
            all_goals refine Wm_unroll 6 ?_
            repeat' with_reducible (first
              | refine ZR.h ?_ | refine zI (by decide) ?_
              | (refine zK hE ?_; intro K hK; simp [KR.ks, q5_0, q5_1, q5_2, q5_3, q5_4, q5_5, q5_6, q5_7, q5_8, q5_9, q5_10, q5_11, hT, hC, hl, hD, hkl, hki, g1, g2, wrap_in]; (repeat' (first | refine hK _ _ ?_ | refine And.intro ?_ ?_ | (intro hc; try subst hc))) <;> (try clear hK K))
              | (refine zJ (b := _) (by with_unfolding_all rfl) (fun hc => ?_) (fun hc => ?_) <;> simp at hc <;> (try subst hc)))
            all_goals first | (exfalso; omega) | skip
            all_goals first | (simp [hsz]; done) | ((try simp [hsz]); refine Imp.auto (by kernel_rfl) ?_ ?_ <;> simp [NLe, mkPlX, hT, hC, hl])
          · have hok2 := ok_snoc hok hx hb
            have c0 : ¬ x.o < 0 := by unfold badP at hb; omega
            have c1 : ¬ 1099511627776 < x.o := by unfold badP at hb; omega
            have c2 : ¬ x.q < 0 := by unfold badP at hb; omega
            have c3 : ¬ 1099511627776 < x.q := by unfold badP at hb; omega
            have c4 : ¬ x.w < 0 := by unfold badP at hb; omega
            have c5 : ¬ 1099511627776 < x.w := by unfold badP at hb; omega
            have c6 : ¬ x.n < 0 := by unfold badP at hb; omega
            have c7 : ¬ 1099511627776 < x.n := by unfold badP at hb; omega
            have c8 : ¬ x.p < 0 := by unfold badP at hb; omega
            have c9 : ¬ 1099511627776 < x.p := by unfold badP at hb; omega
            repeat' with_reducible (first
              | refine ZR.h ?_ | refine zI (by decide) ?_
              | (refine zK hE ?_; intro K hK; simp [KR.ks, q5_0, q5_1, q5_2, q5_3, q5_4, q5_5, q5_6, q5_7, q5_8, q5_9, q5_10, q5_11, hT, hC, hl, hD, hkl, hki, g1, g2]; (repeat' (first | refine hK _ _ ?_ | refine And.intro ?_ ?_ | (intro hc; try subst hc))) <;> (try clear hK K))
              | (refine zJ (b := _) (by with_unfolding_all rfl) (fun hc => ?_) (fun hc => ?_) <;> simp at hc <;> (try subst hc)))
            all_goals refine Wm_unroll 6 ?_
            repeat' with_reducible (first
              | refine ZR.h ?_ | refine zI (by decide) ?_
              | (refine zK hE ?_; intro K hK; simp [KR.ks, q5_0, q5_1, q5_2, q5_3, q5_4, q5_5, q5_6, q5_7, q5_8, q5_9, q5_10, q5_11, hT, hC, hl, hD, hkl, hki, g1, g2, ww, wrap_in, c0, c1, c2, c3, c4, c5, c6, c7, c8, c9]; (repeat' (first | refine hK _ _ ?_ | refine And.intro ?_ ?_ | (intro hc; try subst hc))) <;> (try clear hK K))
              | (refine zJ (b := _) (by with_unfolding_all rfl) (fun hc => ?_) (fun hc => ?_) <;> simp at hc <;> (try subst hc)))
            all_goals first | (exfalso; omega) | skip
            all_goals refine ⟨k + 1, ⟨hkl, hok2⟩, Nat.sub_lt_sub_left hkl (Nat.lt_succ_self k), ?_⟩
            all_goals simp only [I5]
            all_goals rw [hS]
            all_goals (refine Imp.auto (by kernel_rfl) ?_ ?_ <;> simp [NLe, mkPlX, hT, hC, hl])
        · obtain rfl : k = L.length := by omega
          have hsz : wrongZ L 0 = -1 := wrong_none hok
          have hki : ¬ ((L.length : Int) < (L.length : Int)) := by omega
          repeat' with_reducible (first
            | refine ZR.h ?_ | refine zI (by decide) ?_
            | (refine zK hE ?_; intro K hK; simp [KR.ks, q5_0, q5_1, q5_2, q5_3, q5_4, q5_5, q5_6, q5_7, q5_8, q5_9, q5_10, q5_11, hT, hC, hl, hD, hki]; (repeat' (first | refine hK _ _ ?_ | refine And.intro ?_ ?_ | (intro hc; try subst hc))) <;> (try clear hK K))
            | (refine zJ (b := _) (by with_unfolding_all rfl) (fun hc => ?_) (fun hc => ?_) <;> simp at hc <;> (try subst hc)))
          all_goals first | (exfalso; omega) | skip
          all_goals first | (simp [hsz]; done) | ((try simp [hsz]); refine Imp.auto (by kernel_rfl) ?_ ?_ <;> simp [NLe, mkPlX, hT, hC, hl])
      · cases h
    · cases h
  · cases h
end Go.W
namespace Go.W
open Go.Proofs
set_option linter.unusedSimpArgs false
set_option linter.unusedVariables false
set_option maxHeartbeats 8000000
attribute [local irreducible] Wm
attribute [local simp] nmap lkp mkPl prs prsL prT ddL idL CRenL CRen Ren RenL NObj.none CRenLL

def I9 (L : List L5) (k : Nat) : St := ⟨[(3, .sl (.top 1) 0 k), (6, .sl (.top 0) 0 L.length), (7, .int .i64 L.length), (8, .int .i64 k)], [(0, .view 0 5 (l5LL L)), (1, .arr 0 5 (l5LL (L.take k)))], 2⟩
def d9 : List AV → List NObj → Option AV
  | [.sl (.top 0) 0 n], [.view 0 5 els] => (match mapV l5Of els with
    | some L => if n = els.length ∧ els.length ≤ 1000000000000 then some (.os 0 5 (l5LL L)) else none
    | none => none)
  | _, _ => none

theorem ok9 : ROk d9 := by
  intro xs os r h
  unfold d9 at h
  (repeat' (split at h)) <;> first | (cases h; done) | (injection h with h; subst h; simp [l5_t0, l5_cl, l5_dat, l5_tl])
theorem s9 : Sound Tryd.prog 9 (rdS d9 ok9) := by
  refine rd_sound Tryd.func9 nm9 rc9 rv9 ok9 fun xs os r h vs ρ0 hvs => ⟨xs, ?_, fun _ h => h, fun w0 S hS => ?_⟩
  · unfold d9 at h
    (repeat' (split at h)) <;> first | (cases h; done) | exact Nat.le_of_ble_eq_true rfl
  unfold d9 at h
  split at h
  · rename_i n els
    split at h
    · rename_i L hL
      obtain rfl := mapV_ex (g := l5C) (fun _ _ => l5Of_ex) hL
      clear hL
      split at h
      · rename_i hcond
        injection h with h
        subst h
        obtain ⟨rfl, hlen⟩ := hcond
        have hll : List.map l5C L = l5LL L := rfl
        rw [hll] at hvs hlen ⊢
        change S.m = 1 at hS
        have hE : SoundAll Tryd.prog (EL []) := EL_sound (by simp)
        have hT := l5_t0 L
        have hC := l5_cl L
        have hl := l5_len L
        have hD := l5_dat L
        rw [hl] at hlen
        change Wm _ _ _ _ _ _ ⟨argL 0 [.sl (.top 0) 0 (l5LL L).length], idxO 0 [.view 0 5 (l5LL L)], 1⟩ _
        unfold m9
        repeat' with_reducible (first
          | refine ZR.h ?_ | refine zI (by decide) ?_
          | (refine zK hE ?_; intro K hK; simp [KR.ks, q9_0, q9_1, q9_2, q9_3, q9_4, q9_5, q9_6, q9_7, hT, hC, hl, hD]; (repeat' (first | refine hK _ _ ?_ | refine And.intro ?_ ?_ | (intro hc; try subst hc))) <;> (try clear hK K))
          | (refine zJ (b := _) (by with_unfolding_all rfl) (fun hc => ?_) (fun hc => ?_) <;> simp at hc <;> (try subst hc)))
        all_goals (refine Wm_loop (fun k => I9 L k) (fun k => k ≤ L.length) (fun k => L.length - k) 0 (Nat.zero_le _) ?_ ?_)
        · simp only [I9, List.take_zero, l5LL, List.map_nil]
          simp only [← show l5LL L = List.map l5C L from rfl]
          rw [hS]
          (refine Imp.auto (by kernel_rfl) ?_ ?_ <;> simp [NLe, mkPlX, hT, hC, hl])
        rintro k hk
        (try simp only at hk)
        simp only [I9]
        have t1 := l5_t0 (L.take k)
        have t2 := l5_cl (L.take k)
        have t3 := l5_len (L.take k)
        rw [List.length_take, Nat.min_eq_left hk] at t3
        by_cases hkl : k < L.length
        · obtain ⟨x, hx⟩ : ∃ e, L[k]? = some e := ⟨_, List.getElem?_eq_getElem hkl⟩
          have ww : IntKind.wrap .i64 ((k : Int) + 1) = (k : Int) + 1 := wrap_in (by omega) (by omega)
          have hki : (k : Int) < (L.length : Int) := by omega
          obtain ⟨g1, g2⟩ := l5_at hx
          have hkle : k ≤ L.length := hk
          have q6 := l5_app (L.take k) x
          rw [← take_snoc hx] at q6
          have t4 := l5_t0 (L.take (k + 1))
          have t5 := l5_cl (L.take (k + 1))
          have htl : ∀ q, tlLL q (l5LL (L.take k)) = true := fun q => l5_tl q _
          have b1 : (k + 1) * 40 ≤ 140737488355328 := by omega
          have b2 : k + 1 ≤ 9223372036854775807 := by omega
          have b3 : k ≤ 9223372036854775806 := by omega
          simp only [l5C] at g1 g2 q6
          repeat' with_reducible (first
            | refine ZR.h ?_ | refine zI (by decide) ?_
            | (refine zK hE ?_; intro K hK; simp [KR.ks, q9_0, q9_1, q9_2, q9_3, q9_4, q9_5, q9_6, q9_7, hT, hC, hl, hD, hkl, hki, hkle, g1, g2, ww, t1, t2, t3, q6, htl, b1, b2, b3]; (repeat' (first | refine hK _ _ ?_ | refine And.intro ?_ ?_ | (intro hc; try subst hc))) <;> (try clear hK K))
            | (refine zJ (b := _) (by with_unfolding_all rfl) (fun hc => ?_) (fun hc => ?_) <;> simp at hc <;> (try subst hc)))
          all_goals first | (exfalso; omega) | omega | skip
          all_goals refine ⟨k + 1, hkl, Nat.sub_lt_sub_left hkl (Nat.lt_succ_self k), ?_⟩
          all_goals simp only [I9]
          all_goals rw [hS]
          all_goals (refine Imp.auto (by kernel_rfl) ?_ ?_ <;> simp [NLe, mkPlX, hT, hC, hl, q6, t4, t5])
        · obtain rfl : k = L.length := by omega
          have hki : ¬ ((L.length : Int) < (L.length : Int)) := by omega
          rw [List.take_length]
          repeat' with_reducible (first
            | refine ZR.h ?_ | refine zI (by decide) ?_
            | (refine zK hE ?_; intro K hK; simp [KR.ks, q9_0, q9_1, q9_2, q9_3, q9_4, q9_5, q9_6, q9_7, hT, hC, hl, hD, hki]; (repeat' (first | refine hK _ _ ?_ | refine And.intro ?_ ?_ | (intro hc; try subst hc))) <;> (try clear hK K))
            | (refine zJ (b := _) (by with_unfolding_all rfl) (fun hc => ?_) (fun hc => ?_) <;> simp at hc <;> (try subst hc)))
          all_goals first | (exfalso; omega) | skip
          all_goals first | (simp; done) | ((try simp); refine Imp.auto (by kernel_rfl) ?_ ?_ <;> simp [NLe, mkPlX, hT, hC, hl])
      · cases h
    · cases h
  · cases h
end Go.W
namespace Go.W
open Go.Proofs
set_option linter.unusedSimpArgs false
set_option linter.unusedVariables false
set_option maxHeartbeats 8000000
attribute [local irreducible] Wm
attribute [local simp] nmap lkp mkPl prs prsL prT ddL idL CRenL CRen Ren RenL NObj.none CRenLL

def I6 (L : List Int) (k : Nat) : St := ⟨[(5, .sl (.top 0) 0 L.length), (6, .int .i64 L.length), (7, .int .i64 k)], [(0, .view 0 1 (inLL L))], 1⟩
def d6 : List AV → List NObj → Option AV
  | [.sl (.top 0) 0 n], [.view 0 1 els] => (match mapV inOf els with
    | some L => if n = els.length ∧ els.length ≤ 1000000 then some (.bool (smallZ L)) else none
    | none => none)
  | _, _ => none

theorem ok6 : ROk d6 := by
  intro xs os r h
  unfold d6 at h
  (repeat' (split at h)) <;> first | (cases h; done) | (injection h with h; subst h; simp)
theorem s6 : Sound Tryd.prog 6 (rdS d6 ok6) := by
  refine rd_sound Tryd.func6 nm6 rc6 rv6 ok6 fun xs os r h vs ρ0 hvs => ⟨xs, ?_, fun _ h => h, fun w0 S hS => ?_⟩
  · unfold d6 at h
    (repeat' (split at h)) <;> first | (cases h; done) | exact Nat.le_of_ble_eq_true rfl
  unfold d6 at h
  split at h
  · rename_i n els
    split at h
    · rename_i L hL
      obtain rfl := mapV_ex (g := inC) (fun _ _ => inOf_ex) hL
      clear hL
      split at h
      · rename_i hcond
        injection h with h
        subst h
        obtain ⟨rfl, hlen⟩ := hcond
        have hll : List.map inC L = inLL L := rfl
        rw [hll] at hvs hlen ⊢
        change S.m = 1 at hS
        have hE : SoundAll Tryd.prog (EL []) := EL_sound (by simp)
        have hT := in_t0 L
        have hC := in_cl L
        have hl := in_len L
        have hD := in_dat L
        rw [hl] at hlen
        change Wm _ _ _ _ _ _ ⟨argL 0 [.sl (.top 0) 0 (inLL L).length], idxO 0 [.view 0 1 (inLL L)], 1⟩ _
        unfold m6
        repeat' with_reducible (first
          | refine ZR.h ?_ | refine zI (by decide) ?_
          | (refine zK hE ?_; intro K hK; simp [KR.ks, q6_0, q6_1, q6_2, q6_3, q6_4, q6_5, q6_6, q6_7, hT, hC, hl, hD]; (repeat' (first | refine hK _ _ ?_ | refine And.intro ?_ ?_ | (intro hc; try subst hc))) <;> (try clear hK K))
          | (refine zJ (b := _) (by with_unfolding_all rfl) (fun hc => ?_) (fun hc => ?_) <;> simp at hc <;> (try subst hc)))
        all_goals (refine Wm_loop (fun k => I6 L k) (fun k => k ≤ L.length ∧ ∀ y, y ∈ L.take k → smP y) (fun k => L.length - k) 0 ⟨Nat.zero_le _, fun y hy => by simp at hy⟩ ?_ ?_)
        · simp only [I6]
          rw [hS]
          (refine Imp.auto (by kernel_rfl) ?_ ?_ <;> simp [NLe, mkPlX, hT, hC, hl])
        rintro k ⟨hk, hok⟩
        (try simp only at hk hok)
        simp only [I6]
        by_cases hkl : k < L.length
        · obtain ⟨x, hx⟩ : ∃ e, L[k]? = some e := ⟨_, List.getElem?_eq_getElem hkl⟩
          have ww : IntKind.wrap .i64 ((k : Int) + 1) = (k : Int) + 1 := wrap_in (by omega) (by omega)
          have hki : (k : Int) < (L.length : Int) := by omega
          obtain ⟨g1, g2⟩ := in_at hx
          simp only [inC] at g1 g2
          by_cases hb1 : x < -1073741824
          · have hsz : smallZ L = false := small_no hx (by unfold smP; omega)
            repeat' with_reducible (first
              | refine ZR.h ?_ | refine zI (by decide) ?_
              | (refine zK hE ?_; intro K hK; simp [KR.ks, q6_0, q6_1, q6_2, q6_3, q6_4, q6_5, q6_6, q6_7, hT, hC, hl, hD, hkl, hki, g1, g2, hb1]; (repeat' (first | refine hK _ _ ?_ | refine And.intro ?_ ?_ | (intro hc; try subst hc))) <;> (try clear hK K))
              | (refine zJ (b := _) (by with_unfolding_all rfl) (fun hc => ?_) (fun hc => ?_) <;> simp at hc <;> (try subst hc)))
            all_goals first | (exfalso; omega) | skip
            all_goals first | (simp [hsz]; done) | ((try simp [hsz]); refine Imp.auto (by kernel_rfl) ?_ ?_ <;> simp [NLe, mkPlX, hT, hC, hl])
          · by_cases hb2 : 1073741824 < x
            · have hsz : smallZ L = false := small_no hx (by unfold smP; omega)
              repeat' with_reducible (first
                | refine ZR.h ?_ | refine zI (by decide) ?_
                | (refine zK hE ?_; intro K hK; simp [KR.ks, q6_0, q6_1, q6_2, q6_3, q6_4, q6_5, q6_6, q6_7, hT, hC, hl, hD, hkl, hki, g1, g2, hb1, hb2]; (repeat' (first | refine hK _ _ ?_ | refine And.intro ?_ ?_ | (intro hc; try subst hc))) <;> (try clear hK K))
                | (refine zJ (b := _) (by with_unfolding_all rfl) (fun hc => ?_) (fun hc => ?_) <;> simp at hc <;> (try subst hc)))
              all_goals first | (exfalso; omega) | skip
              all_goals first | (simp [hsz]; done) | ((try simp [hsz]); refine Imp.auto (by kernel_rfl) ?_ ?_ <;> simp [NLe, mkPlX, hT, hC, hl])
            · have hok2 : ∀ y, y ∈ L.take (k + 1) → smP y := by
                intro y hy
                rw [take_snoc hx] at hy
                rcases List.mem_append.1 hy with hy | hy
                · exact hok y hy
                · rcases List.mem_cons.1 hy with rfl | hy
                  · unfold smP; omega
                  · cases hy
              repeat' with_reducible (first
                | refine ZR.h ?_ | refine zI (by decide) ?_
                | (refine zK hE ?_; intro K hK; simp [KR.ks, q6_0, q6_1, q6_2, q6_3, q6_4, q6_5, q6_6, q6_7, hT, hC, hl, hD, hkl, hki, g1, g2, hb1, hb2, ww]; (repeat' (first | refine hK _ _ ?_ | refine And.intro ?_ ?_ | (intro hc; try subst hc))) <;> (try clear hK K))
                | (refine zJ (b := _) (by with_unfolding_all rfl) (fun hc => ?_) (fun hc => ?_) <;> simp at hc <;> (try subst hc)))
              all_goals first | (exfalso; omega) | skip
              all_goals refine ⟨k + 1, ⟨hkl, hok2⟩, Nat.sub_lt_sub_left hkl (Nat.lt_succ_self k), ?_⟩
              all_goals simp only [I6]
              all_goals rw [hS]
              all_goals (refine Imp.auto (by kernel_rfl) ?_ ?_ <;> simp [NLe, mkPlX, hT, hC, hl])
        · obtain rfl : k = L.length := by omega
          have hsz : smallZ L = true := small_yes hok
          have hki : ¬ ((L.length : Int) < (L.length : Int)) := by omega
          repeat' with_reducible (first
            | refine ZR.h ?_ | refine zI (by decide) ?_
            | (refine zK hE ?_; intro K hK; simp [KR.ks, q6_0, q6_1, q6_2, q6_3, q6_4, q6_5, q6_6, q6_7, hT, hC, hl, hD, hki]; (repeat' (first | refine hK _ _ ?_ | refine And.intro ?_ ?_ | (intro hc; try subst hc))) <;> (try clear hK K))
            | (refine zJ (b := _) (by with_unfolding_all rfl) (fun hc => ?_) (fun hc => ?_) <;> simp at hc <;> (try subst hc)))
          all_goals first | (exfalso; omega) | skip
          all_goals first | (simp [hsz]; done) | ((try simp [hsz]); refine Imp.auto (by kernel_rfl) ?_ ?_ <;> simp [NLe, mkPlX, hT, hC, hl])
      · cases h
    · cases h
  · cases h
end Go.W
