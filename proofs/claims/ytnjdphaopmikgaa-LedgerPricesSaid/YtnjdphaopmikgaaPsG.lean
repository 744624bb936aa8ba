/- The resolved code of the functions, by a program. -/
import Derived.Test.YtnjdphaopmikgaaChecked
import Derived.Test.YtnjdphaopmikgaaWkC
namespace Go.W
open Go.Proofs
set_option maxRecDepth 100000
theorem mixT:Try.prog.follows .mixedOrders=true:=Try.checked.mixed
theorem zM {E:FuncId→Option Spec} {w0:World} {S:Sc} {N:Nat} {D:List Deferred} {s:St} {Q:Exit→St→Prop} (hE:Zd Try.prog E) {mos:List MO} {pr:List (List Nat)} [k:KD N mos pr] (h:∀ K:List (Nat×AV)→List (Nat×NObj)→Prop,(∀ tl hl,Q .normal ⟨tl,hl,s.nb+8*k.n⟩→K tl hl)→XC (Yx E s.nb mos 0 s.tl s.hl []) fun x=>Zcf (xe k.cl) x.2.2=true∧K (VG k.ks x.1) (Vc [] x.2.1)):Wm Try.prog w0 S N D (.draw mos pr) s Q:=zL hE mixT h
@[simp] def q4_0:List MO:=[An 1 0,Ma 2 (.alloc [(.int .i64 0),(.int .i64 0),(.int .i64 0),(.int .i64 0),(.int .i64 0),(.int .i64 0),(.int .i64 0)]),Ma 3 (.mv (.c (.raw .nilIface)))]
instance:KR Try.f4.ntmps q4_0:=.mk [1,2] 3
@[simp] def q4_1:List MO:=[Ag 6 7 1,Ma 7 (.call (.c (.fn 14 [])) [(.t 6)]),Ma 8 (.len (.t 7)),Ma 9 (.mv (.c (.int .i64 0)))]
instance:KR Try.f4.ntmps q4_1:=.mk [1,2,7,8,9] 4
@[simp] def q4_2:List MO:=[Ma 10 (.bin .lss (.t 9) (.t 8))]
instance:KR Try.f4.ntmps q4_2:=.mk [1,2,7,8,9,10] 1
@[simp] def q4_3:List MO:=[Aa 11 9,Am 12 4 7 9,Ag 13 4 12,Ma 5 (.alloc [(.str (ByteArray.mk #[])),(.int .i64 0),(.int .i64 0),(.int .i64 0)]),Aa 4 11,Ae 4 5 13]
instance:KR Try.f4.ntmps q4_3:=.mk [1,2,4,5,7,8,9] 6
@[simp] def q4_4:List MO:=[Ab 14 1 5,Ac 15 1 14,Ab 16 2 5,Ac 17 1 16,Ma 18 (.bin .lss (.t 15) (.t 17)),Aa 19 18,Ah 20 1 5 19 false,Ai 21 1 20 19 false,Ah 22 3 5 19 false,Ai 23 1 22 19 false,Mg 24 (.bin .gtr (.t 21) (.t 23)) 19 false,Af 25 19 24]
instance:KR Try.f4.ntmps q4_4:=.mk [1,2,4,5,7,8,9,25] 12
@[simp] def q4_5:List MO:=[Ma 26 (.build [(.int .i64 0),(.int .i64 0),(.int .i64 0),(.int .i64 0),(.int .i64 0),(.int .i64 0),(.int .i64 0)] []),Aa 27 4,Ab 28 0 5,Ac 29 1 28,Ma 30 (.mkif 62 (.c (.int .i64 5))),Ma 31 (.call (.c (.fn 16 [])) [(.t 29),(.t 30)]),Ma 32 (.call (.c (.fn 15 [])) [(.t 27),(.t 31)]),Ae 7 2 26,Aa 3 32]
instance:KR Try.f4.ntmps q4_5:=.mk [2,3] 9
@[simp] def q4_6:List MO:=[Ma 33 (.bin .add (.t 9) (.c (.int .i64 1))),Aa 9 33]
instance:KR Try.f4.ntmps q4_6:=.mk [1,2,7,8,9] 2
@[simp] def q4_7:List MO:=[Ag 34 7 1,Ma 35 (.build [(.int .i64 0),(.int .i64 0),(.int .i64 0),(.int .i64 0),(.int .i64 0),(.int .i64 0),(.int .i64 0)] [(0,(7,(.t 34)))]),Ae 7 2 35,Ma 3 (.mv (.c (.raw .nilIface)))]
instance:KR Try.f4.ntmps q4_7:=.mk [2,3] 4
def m4:MCode:=.seq (.reg q4_0) (.seq (.seq (.reg q4_1) (.block 0 (.loop (.seq (.reg q4_2) (.seq (.cond (.t 10) .skip (.exit 0)) (.seq (.block 1 (.seq (.reg q4_3) (.seq (.reg q4_4) (.cond (.t 25) (.seq (.reg q4_5) .ret) .skip)))) (.reg q4_6))))))) (.seq (.reg q4_7) .ret))
theorem C4:CO Try.prog 4 Try.f4 m4 [(.c true 7 2),(.t 3)]:=.mk Try.func4
@[simp] def q5_0:List MO:=[An 1 0,Ma 2 (.mv (.c (.int .i64 0)))]
instance:KR Try.f5.ntmps q5_0:=.mk [1] 2
@[simp] def q5_1:List MO:=[Ab 7 0 1,Ac 8 1 7,Ab 9 1 1,Ac 10 1 9,Ab 11 2 1,Ac 12 1 11,Ab 13 3 1,Ac 14 1 13,Ab 15 4 1,Ac 16 1 15,Ab 17 5 1,Ac 18 1 17,Ab 19 6 1,Ac 20 1 19,Ma 21 (.bsl 1 7 [(.int .i64 0)] [(0,(1,(.t 8))),(1,(1,(.t 10))),(2,(1,(.t 12))),(3,(1,(.t 14))),(4,(1,(.t 16))),(5,(1,(.t 18))),(6,(1,(.t 20)))]),Aa 3 21]
instance:KR Try.f5.ntmps q5_1:=.mk [3] 16
@[simp] def q5_2:List MO:=[Ma 22 (.bsl 1 7 [(.int .i64 0)] [(0,(1,(.c (.int .i64 1)))),(1,(1,(.c (.int .i64 1)))),(2,(1,(.c (.int .i64 1)))),(3,(1,(.c (.int .i64 1)))),(4,(1,(.c (.int .i64 0)))),(5,(1,(.c (.int .i64 1)))),(6,(1,(.c (.int .i64 1))))]),Aa 4 22]
instance:KR Try.f5.ntmps q5_2:=.mk [3,4] 2
@[simp] def q5_3:List MO:=[Ma 23 (.bsl 1 7 [(.int .i64 0)] [(0,(1,(.c (.int .i64 6)))),(1,(1,(.c (.int .i64 4)))),(2,(1,(.c (.int .i64 3)))),(3,(1,(.c (.int .i64 4)))),(4,(1,(.c (.int .i64 4)))),(5,(1,(.c (.int .i64 4)))),(6,(1,(.c (.int .i64 15))))]),Aa 5 23]
instance:KR Try.f5.ntmps q5_3:=.mk [3,4,5] 2
@[simp] def q5_4:List MO:=[Ma 6 (.mv (.c (.int .i64 0)))]
instance:KR Try.f5.ntmps q5_4:=.mk [3,4,5,6] 1
@[simp] def q5_5:List MO:=[Aa 24 6,Aa 25 3,Ma 26 (.len (.t 25)),Ma 27 (.bin .lss (.t 24) (.t 26))]
instance:KR Try.f5.ntmps q5_5:=.mk [3,4,5,6,27] 4
@[simp] def q5_6:List MO:=[Aa 30 3,Aa 31 6,Am 32 1 30 31,Ac 33 1 32,Aa 34 4,Aa 35 6,Am 36 1 34 35,Ac 37 1 36,Ma 38 (.bin .lss (.t 33) (.t 37)),Aa 39 38,Aj 40 3 39 false,Aj 41 6 39 false,Mg 42 (.iaddr 1 (.t 40) (.t 41)) 39 false,Ai 43 1 42 39 false,Aj 44 5 39 false,Aj 45 6 39 false,Mg 46 (.iaddr 1 (.t 44) (.t 45)) 39 false,Ai 47 1 46 39 false,Mg 48 (.bin .gtr (.t 43) (.t 47)) 39 false,Af 49 39 48]
def p5_6:List (List Nat):=[[],[],[0,1],[2],[],[],[4,5],[6],[3,7],[8],[9],[9],[10,11,9],[12,9],[9],[9],[14,15,9],[16,9],[13,17,9],[9,18]]
instance:KD Try.f5.ntmps q5_6 p5_6:=.mk [[],[],[0,1],[0,1,2],[],[],[4,5],[4,5,6],[0,1,2,3,4,5,6,7],[0,1,2,3,4,5,6,7,8],[0,1,2,3,4,5,6,7,8,9],[0,1,2,3,4,5,6,7,8,9],[0,1,2,3,4,5,6,7,8,9,10,11],[0,1,2,3,4,5,6,7,8,9,10,11,12],[0,1,2,3,4,5,6,7,8,9],[0,1,2,3,4,5,6,7,8,9],[0,1,2,3,4,5,6,7,8,9,14,15],[0,1,2,3,4,5,6,7,8,9,14,15,16],[0,1,2,3,4,5,6,7,8,9,10,11,12,13,14,15,16,17],[0,1,2,3,4,5,6,7,8,9,10,11,12,13,14,15,16,17,18]] [3,4,5,6,49] 20
@[simp] def q5_7:List MO:=[Aa 50 6,Aa 2 50]
instance:KR Try.f5.ntmps q5_7:=.mk [2] 2
@[simp] def q5_8:List MO:=[Aa 28 6,Ma 29 (.bin .add (.t 28) (.c (.int .i64 1))),Aa 6 29]
instance:KR Try.f5.ntmps q5_8:=.mk [3,4,5,6] 3
@[simp] def q5_9:List MO:=[Ma 2 (.mv (.c (.int .i64 (-1))))]
instance:KR Try.f5.ntmps q5_9:=.mk [2] 1
def m5:MCode:=.seq (.reg q5_0) (.seq (.reg q5_1) (.seq (.reg q5_2) (.seq (.reg q5_3) (.seq (.seq (.reg q5_4) (.block 0 (.loop (.seq (.seq (.reg q5_5) (.cond (.t 27) .skip (.exit 0))) (.seq (.block 1 (.seq (.draw q5_6 p5_6) (.cond (.t 49) (.seq (.reg q5_7) .ret) .skip))) (.reg q5_8)))))) (.seq (.reg q5_9) .ret)))))
theorem C5:CO Try.prog 5 Try.f5 m5 [(.t 2)]:=.mk Try.func5
@[simp] def q14_0:List MO:=[An 1 0,Ma 2 (.mv (.c .nsl))]
instance:KR Try.f14.ntmps q14_0:=.mk [1] 2
@[simp] def q14_1:List MO:=[Ab 3 0 1,Ac 4 1 3,Ma 5 (.build [(.str (ByteArray.mk #[])),(.int .i64 0),(.int .i64 0),(.int .i64 0)] [(0,(1,(.c (.str (ByteArray.mk #[112,97,114,116,115]))))),(1,(1,(.t 4))),(2,(1,(.c (.int .i64 1)))),(3,(1,(.c (.int .i64 6))))]),Ab 6 1 1,Ac 7 1 6,Ma 8 (.build [(.str (ByteArray.mk #[])),(.int .i64 0),(.int .i64 0),(.int .i64 0)] [(0,(1,(.c (.str (ByteArray.mk #[99,101,108,108,115]))))),(1,(1,(.t 7))),(2,(1,(.c (.int .i64 1)))),(3,(1,(.c (.int .i64 4))))]),Ab 9 2 1,Ac 10 1 9,Ma 11 (.build [(.str (ByteArray.mk #[])),(.int .i64 0),(.int .i64 0),(.int .i64 0)] [(0,(1,(.c (.str (ByteArray.mk #[110,97,109,101,115]))))),(1,(1,(.t 10))),(2,(1,(.c (.int .i64 1)))),(3,(1,(.c (.int .i64 3))))]),Ab 12 3 1,Ac 13 1 12,Ma 14 (.build [(.str (ByteArray.mk #[])),(.int .i64 0),(.int .i64 0),(.int .i64 0)] [(0,(1,(.c (.str (ByteArray.mk #[98,97,110,100,115]))))),(1,(1,(.t 13))),(2,(1,(.c (.int .i64 1)))),(3,(1,(.c (.int .i64 4))))]),Ab 15 4 1,Ac 16 1 15,Ma 17 (.build [(.str (ByteArray.mk #[])),(.int .i64 0),(.int .i64 0),(.int .i64 0)] [(0,(1,(.c (.str (ByteArray.mk #[112,114,111,98,101,115]))))),(1,(1,(.t 16))),(2,(1,(.c (.int .i64 0)))),(3,(1,(.c (.int .i64 4))))]),Ab 18 5 1,Ac 19 1 18,Ma 20 (.build [(.str (ByteArray.mk #[])),(.int .i64 0),(.int .i64 0),(.int .i64 0)] [(0,(1,(.c (.str (ByteArray.mk #[102,105,108,108,115]))))),(1,(1,(.t 19))),(2,(1,(.c (.int .i64 1)))),(3,(1,(.c (.int .i64 4))))]),Ab 21 6 1,Ac 22 1 21,Ma 23 (.build [(.str (ByteArray.mk #[])),(.int .i64 0),(.int .i64 0),(.int .i64 0)] [(0,(1,(.c (.str (ByteArray.mk #[103,101,110,115]))))),(1,(1,(.t 22))),(2,(1,(.c (.int .i64 1)))),(3,(1,(.c (.int .i64 15))))]),Ma 24 (.bsl 4 7 [(.str (ByteArray.mk #[])),(.int .i64 0),(.int .i64 0),(.int .i64 0)] [(0,(4,(.t 5))),(4,(4,(.t 8))),(8,(4,(.t 11))),(12,(4,(.t 14))),(16,(4,(.t 17))),(20,(4,(.t 20))),(24,(4,(.t 23)))]),Aa 2 24]
instance:KR Try.f14.ntmps q14_1:=.mk [2] 23
def m14:MCode:=.seq (.reg q14_0) (.seq (.reg q14_1) .ret)
theorem C14:CO Try.prog 14 Try.f14 m14 [(.t 2)]:=.mk Try.func14
@[simp] def q15_0:List MO:=[Ma 4 (.mv (.c (.raw .nilIface)))]
instance:KR Try.f15.ntmps q15_0:=.mk [0,1] 1
@[simp] def q15_1:List MO:=[Aa 5 1,Ma 6 (.eq false .iface (.t 5) (.c (.raw .nilIface)))]
instance:KR Try.f15.ntmps q15_1:=.mk [0,1,6] 2
@[simp] def q15_2:List MO:=[Ma 4 (.mv (.c (.raw .nilIface)))]
instance:KR Try.f15.ntmps q15_2:=.mk [4] 1
@[simp] def q15_3:List MO:=[Aa 7 0,Aa 8 1,Ma 9 (.build [(.int .i64 0),(.raw .nilIface)] [(0,(1,(.t 7))),(1,(1,(.t 8)))]),An 10 9,Ma 11 (.mkif 83 (.t 10)),Aa 4 11]
instance:KR Try.f15.ntmps q15_3:=.mk [4] 6
def m15:MCode:=.seq (.reg q15_0) (.seq (.seq (.reg q15_1) (.cond (.t 6) (.seq (.reg q15_2) .ret) .skip)) (.seq (.reg q15_3) .ret))
theorem C15:CO Try.prog 15 Try.f15 m15 [(.t 4)]:=.mk Try.func15
@[simp] def q16_0:List MO:=[Ma 4 (.mv (.c (.raw .nilIface)))]
instance:KR Try.f16.ntmps q16_0:=.mk [0,1] 1
@[simp] def q16_1:List MO:=[Aa 5 1,Ma 6 (.eq false .iface (.t 5) (.c (.raw .nilIface)))]
instance:KR Try.f16.ntmps q16_1:=.mk [0,1,6] 2
@[simp] def q16_2:List MO:=[Ma 4 (.mv (.c (.raw .nilIface)))]
instance:KR Try.f16.ntmps q16_2:=.mk [4] 1
@[simp] def q16_3:List MO:=[Aa 7 0,Aa 8 1,Ma 9 (.build [(.str (ByteArray.mk #[])),(.raw .nilIface)] [(0,(1,(.t 7))),(1,(1,(.t 8)))]),An 10 9,Ma 11 (.mkif 86 (.t 10)),Aa 4 11]
instance:KR Try.f16.ntmps q16_3:=.mk [4] 6
def m16:MCode:=.seq (.reg q16_0) (.seq (.seq (.reg q16_1) (.cond (.t 6) (.seq (.reg q16_2) .ret) .skip)) (.seq (.reg q16_3) .ret))
theorem C16:CO Try.prog 16 Try.f16 m16 [(.t 4)]:=.mk Try.func16
@[simp] def q28_0:List MO:=[An 4 0,An 5 1,Ma 8 (.mv (.c (.int .i64 0)))]
instance:KR Try.f28.ntmps q28_0:=.mk [2,3,4,5] 3
@[simp] def q28_1:List MO:=[Ab 9 0 5,Ac 10 1 9,Ma 11 (.bin .lss (.t 10) (.c (.int .i64 0))),Aa 12 11,Ah 13 0 5 12 false,Ai 14 1 13 12 false,Ah 15 2 4 12 false,Ai 16 1 15 12 false,Mg 17 (.bin .geq (.t 14) (.t 16)) 12 false,Af 18 12 17]
instance:KR Try.f28.ntmps q28_1:=.mk [2,3,5,18] 10
@[simp] def q28_2:List MO:=[Ma 8 (.mv (.c (.int .i64 22)))]
instance:KR Try.f28.ntmps q28_2:=.mk [8] 1
@[simp] def q28_3:List MO:=[Ab 19 1 5,Ac 20 1 19,Ma 21 (.bin .neq (.t 20) (.c (.int .i64 0))),Aa 22 21,Ah 23 1 5 22 true,Ai 24 1 23 22 true,Mg 25 (.bin .neq (.t 24) (.c (.int .i64 1))) 22 true,Al 26 22 25]
instance:KR Try.f28.ntmps q28_3:=.mk [2,3,5,26] 8
@[simp] def q28_4:List MO:=[Ma 8 (.mv (.c (.int .i64 1)))]
instance:KR Try.f28.ntmps q28_4:=.mk [8] 1
@[simp] def q28_5:List MO:=[Aa 27 2,Ma 28 (.bin .lss (.t 27) (.c (.int .i64 1))),Aa 29 28,Aj 30 2 29 false,Mg 31 (.bin .gtr (.t 30) (.c (.int .i64 9999))) 29 false,Af 32 29 31]
instance:KR Try.f28.ntmps q28_5:=.mk [2,3,5,32] 6
@[simp] def q28_6:List MO:=[Ma 8 (.mv (.c (.int .i64 23)))]
instance:KR Try.f28.ntmps q28_6:=.mk [8] 1
@[simp] def q28_7:List MO:=[Ab 33 2 5,Ac 34 1 33,Ma 35 (.bin .lss (.t 34) (.c (.int .i64 1))),Aa 36 35,Ah 37 2 5 36 false,Ai 38 1 37 36 false,Mg 39 (.bin .gtr (.t 38) (.c (.int .i64 9999))) 36 false,Af 40 36 39]
instance:KR Try.f28.ntmps q28_7:=.mk [2,3,5,40] 8
@[simp] def q28_8:List MO:=[Ma 8 (.mv (.c (.int .i64 24)))]
instance:KR Try.f28.ntmps q28_8:=.mk [8] 1
@[simp] def q28_9:List MO:=[Ab 41 3 5,Ac 42 1 41,Ma 43 (.bin .lss (.t 42) (.c (.int .i64 1))),Aa 44 43,Ah 45 3 5 44 false,Ai 46 1 45 44 false,Aj 47 2 44 false,Mg 48 (.bin .gtr (.t 46) (.t 47)) 44 false,Af 49 44 48]
instance:KR Try.f28.ntmps q28_9:=.mk [3,5,49] 9
@[simp] def q28_10:List MO:=[Ma 8 (.mv (.c (.int .i64 25)))]
instance:KR Try.f28.ntmps q28_10:=.mk [8] 1
@[simp] def q28_11:List MO:=[Ab 50 4 5,Ac 51 1 50,Aa 52 3,Ma 53 (.bin .leq (.t 51) (.t 52)),Aa 54 53,Ah 55 4 5 54 false,Ai 56 1 55 54 false,Mg 57 (.bin .gtr (.t 56) (.c (.int .i64 1000000))) 54 false,Af 58 54 57]
instance:KR Try.f28.ntmps q28_11:=.mk [58] 9
@[simp] def q28_12:List MO:=[Ma 8 (.mv (.c (.int .i64 26)))]
instance:KR Try.f28.ntmps q28_12:=.mk [8] 1
@[simp] def q28_13:List MO:=[Ma 8 (.mv (.c (.int .i64 0)))]
instance:KR Try.f28.ntmps q28_13:=.mk [8] 1
def m28:MCode:=.seq (.reg q28_0) (.seq (.seq (.reg q28_1) (.cond (.t 18) (.seq (.reg q28_2) .ret) .skip)) (.seq (.seq (.reg q28_3) (.cond (.t 26) (.seq (.reg q28_4) .ret) .skip)) (.seq (.seq (.reg q28_5) (.cond (.t 32) (.seq (.reg q28_6) .ret) .skip)) (.seq (.seq (.reg q28_7) (.cond (.t 40) (.seq (.reg q28_8) .ret) .skip)) (.seq (.seq (.reg q28_9) (.cond (.t 49) (.seq (.reg q28_10) .ret) .skip)) (.seq (.seq (.reg q28_11) (.cond (.t 58) (.seq (.reg q28_12) .ret) .skip)) (.seq (.reg q28_13) .ret)))))))
theorem C28:CO Try.prog 28 Try.f28 m28 [(.t 8)]:=.mk Try.func28
@[simp] def q31_0:List MO:=[An 4 0,An 5 1,Ma 8 (.mv (.c (.int .i64 0))),Ma 9 (.mv (.c (.int .i64 0)))]
instance:KR Try.f31.ntmps q31_0:=.mk [2,3,4,5] 4
@[simp] def q31_1:List MO:=[Ab 11 1 4,Ac 12 1 11,Ma 13 (.bin .eql (.t 12) (.c (.int .i64 1)))]
instance:KR Try.f31.ntmps q31_1:=.mk [2,3,4,5,13] 3
@[simp] def q31_2:List MO:=[Ag 14 5 5,Ag 15 5 4,Ae 5 4 14,Ae 5 5 15]
instance:KR Try.f31.ntmps q31_2:=.mk [2,3,4,5] 4
@[simp] def q31_3:List MO:=[Aa 16 3,Aa 17 2,Aa 2 16,Aa 3 17]
instance:KR Try.f31.ntmps q31_3:=.mk [2,3,4,5] 4
@[simp] def q31_4:List MO:=[Ab 18 1 4,Ac 19 1 18,Ma 20 (.bin .neq (.t 19) (.c (.int .i64 0))),Aa 21 20,Ah 22 1 5 21 false,Ai 23 1 22 21 false,Mg 24 (.bin .neq (.t 23) (.c (.int .i64 1))) 21 false,Af 25 21 24,Aa 26 25,Ah 27 0 4 26 false,Ai 28 1 27 26 false,Ah 29 0 5 26 false,Ai 30 1 29 26 false,Mg 31 (.bin .neq (.t 28) (.t 30)) 26 false,Af 32 26 31,Aa 33 32,Ah 34 2 4 33 false,Ai 35 1 34 33 false,Ah 36 2 5 33 false,Ai 37 1 36 33 false,Mg 38 (.bin .lss (.t 35) (.t 37)) 33 false,Af 39 33 38]
instance:KR Try.f31.ntmps q31_4:=.mk [2,3,4,5,39] 22
@[simp] def q31_5:List MO:=[Ma 8 (.mv (.c (.int .i64 0))),Ma 9 (.mv (.c (.int .i64 0)))]
instance:KR Try.f31.ntmps q31_5:=.mk [8,9] 2
@[simp] def q31_6:List MO:=[Aa 40 2,Aa 10 40]
instance:KR Try.f31.ntmps q31_6:=.mk [3,4,5,10] 2
@[simp] def q31_7:List MO:=[Aa 41 3,Aa 42 10,Ma 43 (.bin .lss (.t 41) (.t 42))]
instance:KR Try.f31.ntmps q31_7:=.mk [3,4,5,10,43] 3
@[simp] def q31_8:List MO:=[Aa 44 3,Aa 10 44]
instance:KR Try.f31.ntmps q31_8:=.mk [4,5,10] 2
@[simp] def q31_9:List MO:=[Aa 45 10,Ma 46 (.bin .lss (.t 45) (.c (.int .i64 1))),Aa 47 46,Aj 48 10 47 false,Ah 49 3 4 47 false,Ai 50 1 49 47 false,Mg 51 (.bin .lss (.t 48) (.t 50)) 47 false,Af 52 47 51,Aa 53 52,Aj 54 10 53 false,Ah 55 3 5 53 false,Ai 56 1 55 53 false,Mg 57 (.bin .lss (.t 54) (.t 56)) 53 false,Af 58 53 57]
instance:KR Try.f31.ntmps q31_9:=.mk [4,5,10,58] 14
@[simp] def q31_10:List MO:=[Ma 8 (.mv (.c (.int .i64 0))),Ma 9 (.mv (.c (.int .i64 0)))]
instance:KR Try.f31.ntmps q31_10:=.mk [8,9] 2
@[simp] def q31_11:List MO:=[Aa 59 10,Ab 60 2 4,Ac 61 1 60,Ab 62 2 5,Ac 63 1 62,Ma 64 (.bin .add (.t 61) (.t 63)),Ma 65 (.bin .quo (.t 64) (.c (.int .i64 2))),Aa 8 59,Aa 9 65]
def p31_11:List (List Nat):=[[],[],[1],[],[3],[2,4],[5],[0,0],[6,7,0,1,2,3,4,5,6,7]]
instance:KD Try.f31.ntmps q31_11 p31_11:=.mk [[],[],[1],[],[3],[1,2,3,4],[1,2,3,4,5],[0],[0,1,2,3,4,5,6,7]] [8,9] 9
def m31:MCode:=.seq (.reg q31_0) (.seq (.seq (.reg q31_1) (.cond (.t 13) (.seq (.reg q31_2) (.reg q31_3)) .skip)) (.seq (.seq (.reg q31_4) (.cond (.t 39) (.seq (.reg q31_5) .ret) .skip)) (.seq (.reg q31_6) (.seq (.seq (.reg q31_7) (.cond (.t 43) (.reg q31_8) .skip)) (.seq (.seq (.reg q31_9) (.cond (.t 58) (.seq (.reg q31_10) .ret) .skip)) (.seq (.draw q31_11 p31_11) .ret))))))
theorem C31:CO Try.prog 31 Try.f31 m31 [(.t 8),(.t 9)]:=.mk Try.func31
@[simp] def q37_0:List MO:=[An 2 0,Ma 4 (.mv (.c (.int .i64 0)))]
instance:KR Try.f37.ntmps q37_0:=.mk [1,2] 2
@[simp] def q37_1:List MO:=[Aa 5 1,Ma 6 (.bin .lss (.t 5) (.c (.int .i64 0))),Aa 7 6,Aj 8 1 7 false,Mg 9 (.load true 7 (.t 2)) 7 false,Mg 10 (.call (.c (.fn 46 [])) [(.t 9)]) 7 false,Mg 11 (.bin .geq (.t 8) (.t 10)) 7 false,Af 12 7 11]
instance:KR Try.f37.ntmps q37_1:=.mk [1,2,12] 8
@[simp] def q37_2:List MO:=[Ma 4 (.mv (.c (.int .i64 (-1))))]
instance:KR Try.f37.ntmps q37_2:=.mk [4] 1
@[simp] def q37_3:List MO:=[Aa 13 1,Ab 14 0 2,Ab 15 1 14,Ac 16 1 15,Ma 17 (.bin .quo (.t 13) (.t 16)),Aa 4 17]
instance:KR Try.f37.ntmps q37_3:=.mk [4] 6
def m37:MCode:=.seq (.reg q37_0) (.seq (.seq (.reg q37_1) (.cond (.t 12) (.seq (.reg q37_2) .ret) .skip)) (.seq (.reg q37_3) .ret))
theorem C37:CO Try.prog 37 Try.f37 m37 [(.t 4)]:=.mk Try.func37
@[simp] def q44_0:List MO:=[An 4 0,An 5 1,Ma 8 (.alloc [(.int .i64 0),(.int .i64 0)])]
instance:KR Try.f44.ntmps q44_0:=.mk [2,3,4,5,8] 3
@[simp] def q44_1:List MO:=[Ag 12 5 4,Ag 13 5 5,Ma 9 (.alloc [(.int .i64 0),(.int .i64 0),(.int .i64 0),(.int .i64 0),(.int .i64 0)]),Ma 10 (.alloc [(.int .i64 0),(.int .i64 0),(.int .i64 0),(.int .i64 0),(.int .i64 0)]),Ae 5 9 12,Ae 5 10 13]
def p44_1:List (List Nat):=[[],[],[],[],[2,0,0,2,3],[3,1,4,0,1,2,3,4]]
instance:KD Try.f44.ntmps q44_1 p44_1:=.mk [[],[],[],[],[0,2,3],[0,1,2,3,4]] [2,3,4,5,8,9,10] 6
@[simp] def q44_2:List MO:=[Ab 14 1 4,Ac 15 1 14,Ma 16 (.bin .eql (.t 15) (.c (.int .i64 1)))]
instance:KR Try.f44.ntmps q44_2:=.mk [2,3,4,5,8,9,10,16] 3
@[simp] def q44_3:List MO:=[Ag 17 5 5,Ag 18 5 4,Ae 5 9 17,Ae 5 10 18]
def p44_3:List (List Nat):=[[],[],[0,0],[1,2,0,1,2]]
instance:KD Try.f44.ntmps q44_3 p44_3:=.mk [[],[],[0],[0,1,2]] [2,3,4,5,8,9,10] 4
@[simp] def q44_4:List MO:=[Ab 19 1 9,Ac 20 1 19,Ma 21 (.bin .neq (.t 20) (.c (.int .i64 0))),Aa 22 21,Ah 23 1 10 22 false,Ai 24 1 23 22 false,Mg 25 (.bin .neq (.t 24) (.c (.int .i64 1))) 22 false,Af 26 22 25,Aa 27 26,Ah 28 0 4 27 false,Ai 29 1 28 27 false,Ah 30 0 5 27 false,Ai 31 1 30 27 false,Mg 32 (.bin .neq (.t 29) (.t 31)) 27 false,Af 33 27 32]
instance:KR Try.f44.ntmps q44_4:=.mk [2,3,4,5,8,9,10,33] 15
@[simp] def q44_5:List MO:=[Ma 34 (.build [(.int .i64 0),(.int .i64 0)] []),Ae 2 8 34]
instance:KR Try.f44.ntmps q44_5:=.mk [8] 2
@[simp] def q44_6:List MO:=[Aa 35 2,Aa 36 3,Ma 37 (.mn [(.t 35),(.t 36)]),Aa 11 37]
instance:KR Try.f44.ntmps q44_6:=.mk [4,5,8,9,10,11] 4
@[simp] def q44_7:List MO:=[Ab 38 2 9,Ac 39 1 38,Ab 40 2 10,Ac 41 1 40,Ma 42 (.bin .lss (.t 39) (.t 41)),Aa 43 42,Aj 44 11 43 false,Mg 45 (.bin .lss (.t 44) (.c (.int .i64 1))) 43 false,Af 46 43 45,Aa 47 46,Aj 48 11 47 false,Ah 49 3 4 47 false,Ai 50 1 49 47 false,Ah 51 3 5 47 false,Ai 52 1 51 47 false,Mg 53 (.mx [(.t 50),(.t 52)]) 47 false,Mg 54 (.bin .lss (.t 48) (.t 53)) 47 false,Af 55 47 54]
instance:KR Try.f44.ntmps q44_7:=.mk [8,9,10,11,55] 18
@[simp] def q44_8:List MO:=[Ma 56 (.build [(.int .i64 0),(.int .i64 0)] []),Ae 2 8 56]
instance:KR Try.f44.ntmps q44_8:=.mk [8] 2
@[simp] def q44_9:List MO:=[Aa 57 11,Ab 58 2 10,Ac 59 1 58,Ab 60 2 9,Ac 61 1 60,Ma 62 (.call (.c (.fn 47 [])) [(.t 59),(.t 61)]),Ma 63 (.build [(.int .i64 0),(.int .i64 0)] [(0,(1,(.t 57))),(1,(1,(.t 62)))]),Ae 2 8 63]
instance:KR Try.f44.ntmps q44_9:=.mk [8] 8
def m44:MCode:=.seq (.reg q44_0) (.seq (.draw q44_1 p44_1) (.seq (.seq (.reg q44_2) (.cond (.t 16) (.draw q44_3 p44_3) .skip)) (.seq (.seq (.reg q44_4) (.cond (.t 33) (.seq (.reg q44_5) .ret) .skip)) (.seq (.reg q44_6) (.seq (.seq (.reg q44_7) (.cond (.t 55) (.seq (.reg q44_8) .ret) .skip)) (.seq (.reg q44_9) .ret))))))
theorem C44:CO Try.prog 44 Try.f44 m44 [(.c true 2 8)]:=.mk Try.func44
@[simp] def q46_0:List MO:=[An 1 0,Ma 2 (.mv (.c (.int .i64 0)))]
instance:KR Try.f46.ntmps q46_0:=.mk [1] 2
@[simp] def q46_1:List MO:=[Ab 3 0 1,Ab 4 0 3,Ac 5 1 4,Ab 6 0 1,Ab 7 1 6,Ac 8 1 7,Ma 9 (.bin .mul (.t 5) (.t 8)),Aa 2 9]
instance:KR Try.f46.ntmps q46_1:=.mk [2] 8
def m46:MCode:=.seq (.reg q46_0) (.seq (.reg q46_1) .ret)
theorem C46:CO Try.prog 46 Try.f46 m46 [(.t 2)]:=.mk Try.func46
@[simp] def q47_0:List MO:=[Ma 4 (.mv (.c (.int .i64 0)))]
instance:KR Try.f47.ntmps q47_0:=.mk [0,1] 1
@[simp] def q47_1:List MO:=[Aa 5 0,Aa 6 1,Aa 7 0,Ma 8 (.bin .sub (.t 6) (.t 7)),Ma 9 (.bin .quo (.t 8) (.c (.int .i64 2))),Ma 10 (.bin .add (.t 5) (.t 9)),Aa 11 0,Aa 12 1,Ma 13 (.call (.c (.fn 50 [])) [(.t 11),(.t 12)]),Ma 14 (.bin .sub (.t 10) (.t 13)),Aa 4 14]
instance:KR Try.f47.ntmps q47_1:=.mk [4] 11
def m47:MCode:=.seq (.reg q47_0) (.seq (.reg q47_1) .ret)
theorem C47:CO Try.prog 47 Try.f47 m47 [(.t 4)]:=.mk Try.func47
@[simp] def q50_0:List MO:=[Ma 4 (.mv (.c (.int .i64 0)))]
instance:KR Try.f50.ntmps q50_0:=.mk [0,1] 1
@[simp] def q50_1:List MO:=[Aa 5 1,Aa 6 0,Ma 7 (.bin .lss (.t 5) (.t 6)),Aa 8 7,Aj 9 0 8 true,Aj 10 1 8 true,Mg 11 (.bin .sub (.t 9) (.t 10)) 8 true,Mg 12 (.bin .rem (.t 11) (.c (.int .i64 2))) 8 true,Mg 13 (.bin .eql (.t 12) (.c (.int .i64 1))) 8 true,Al 14 8 13]
instance:KR Try.f50.ntmps q50_1:=.mk [14] 10
@[simp] def q50_2:List MO:=[Ma 4 (.mv (.c (.int .i64 1)))]
instance:KR Try.f50.ntmps q50_2:=.mk [4] 1
@[simp] def q50_3:List MO:=[Ma 4 (.mv (.c (.int .i64 0)))]
instance:KR Try.f50.ntmps q50_3:=.mk [4] 1
def m50:MCode:=.seq (.reg q50_0) (.seq (.seq (.reg q50_1) (.cond (.t 14) (.seq (.reg q50_2) .ret) .skip)) (.seq (.reg q50_3) .ret))
theorem C50:CO Try.prog 50 Try.f50 m50 [(.t 4)]:=.mk Try.func50
set_option linter.unusedSimpArgs false
set_option linter.unusedVariables false
set_option maxHeartbeats 8000000
attribute [local irreducible] Wm
attribute [local simp] Yu lkp Ui prs Th prT ddL idL Yn U1 Ren Vz NObj.none ZZ
theorem vX {a b A B:Int} (h1:0≤a) (h2:a≤A) (h3:0≤b) (h4:b≤B):0≤a*b∧a*b≤A*B :=
 ⟨Int.mul_nonneg h1 h3,Int.mul_le_mul h2 h4 h3 (by omega)⟩
theorem VE {a b:Int} (h1:0≤a) (h2:a≤1000000000) (h3:1≤b):IntKind.wrap .i64 (a.tdiv b)=a / b:=by
 rw[Int.tdiv_eq_ediv_of_nonneg h1];have h4:=Int.ediv_nonneg h1 (show 0≤b by omega);have h5:=Int.ediv_le_self b h1;exact Zh (by omega) (by omega)
def VA (a b c d e f g:Int):Bool:=decide (1≤a∧a≤6∧1≤b∧b≤4∧1≤c∧c≤3∧1≤d∧d≤4∧0≤e∧e≤4∧1≤f∧f≤4∧1≤g∧g≤15)
theorem YF {a b c d e f g:Int} (h:VA a b c d e f g=true):1≤a∧a≤6∧1≤b∧b≤4∧1≤c∧c≤3∧1≤d∧d≤4∧0≤e∧e≤4∧1≤f∧f≤4∧1≤g∧g≤15:=of_decide_eq_true h
theorem XU {a b c d e f g:Int} (h:VA a b c d e f g=true):1≤a*b∧a*b≤24:=by
 obtain ⟨h1,h2,h3,h4,_⟩:=YF h;have:=vX (show 0≤a by omega) h2 (show 0≤b by omega) h4;have:=Int.mul_le_mul h1 h3 (by omega) (show 0≤a by omega);omega
def d46:List AV→List NObj→Option AV
 | [.agg [.int .i64 a,.int .i64 b,.int .i64 c,.int .i64 d,.int .i64 e,.int .i64 f,.int .i64 g]],[]=>if VA a b c d e f g=true then some (.int .i64 (a*b)) else none
 | _,_=>none
theorem ok46:ROk d46:=by
 intro xs os r h;unfold d46 at h
 (repeat' (split at h))<;>first|(cases h;done)|(injection h with h;subst h;simp)
theorem s46:Sound Try.prog 46 (rdS d46 ok46):=by
 refine Zn C46.a C46.b C46.c C46.d ok46 fun xs os r h vs ρ0 hvs=>⟨xs,?_,fun _ h=>h,fun w0 S hS=>?_⟩
 ·unfold d46 at h
  (repeat' (split at h))<;>first|(cases h;done)|exact Nat.le_of_ble_eq_true rfl
 unfold d46 at h;split at h
 ·split at h
  ·rename_i a b c d e f g hcond
   injection h with h;subst h;have hE:Zd Try.prog (EL []):=Zf (by simp);have hm:=XU hcond;have w1:IntKind.wrap .i64 (a*b)=a*b:=Zh (by omega) (by omega);unfold m46
   repeat' with_reducible (first|refine ZR.h ?_|refine zI ?_|(refine zK hE ?_;intro K hK;simp[w1];(repeat' (first|refine hK _ _ ?_|apply And.intro|(intro hc;try subst hc)))<;>(try clear hK K))|(refine zJ (fun hc=>?_) (fun hc=>?_)<;>simp at hc<;>(try subst hc)))
   all_goals first|(simp;done)|(simp at *;omega)|((try simp);refine Imp.aut ?_ ?_<;>simp[NLe])
  ·cases h
 ·cases h
def Xw (a b x:Int):Int:=if x<0 then -1 else if x<a*b then x / b else -1
def d37:List AV→List NObj→Option AV
 | [.agg [.int .i64 a,.int .i64 b,.int .i64 c,.int .i64 d,.int .i64 e,.int .i64 f,.int .i64 g],.int .i64 x],[]=>if VA a b c d e f g=true then some (.int .i64 (Xw a b x)) else none
 | _,_=>none
theorem ok37:ROk d37:=by
 intro xs os r h;unfold d37 at h
 (repeat' (split at h))<;>first|(cases h;done)|(injection h with h;subst h;simp)
theorem s37:Sound Try.prog 37 (rdS d37 ok37):=by
 refine Zn C37.a C37.b C37.c C37.d ok37 fun xs os r h vs ρ0 hvs=>⟨xs,?_,fun _ h=>h,fun w0 S hS=>?_⟩
 ·unfold d37 at h
  (repeat' (split at h))<;>first|(cases h;done)|exact Nat.le_of_ble_eq_true rfl
 unfold d37 at h;split at h
 ·split at h
  ·rename_i a b c d e f g x hcond
   injection h with h;subst h;have hE:Zd Try.prog (EL [(46,rdS d46 ok46)]):=Zf (by simp only[List.mem_cons,List.not_mem_nil,or_false,forall_eq_or_imp,forall_eq];exact s46);have hc:=YF hcond;have hm:=XU hcond;by_cases h1:x<0
   ·unfold m37
    repeat' with_reducible (first|refine ZR.h ?_|refine zI ?_|(refine zK hE ?_;intro K hK;simp[h1,hcond,Xw,d46];(repeat' (first|refine hK _ _ ?_|apply And.intro|(intro hc;try subst hc)))<;>(try clear hK K))|(refine zJ (fun hc=>?_) (fun hc=>?_)<;>simp at hc<;>(try subst hc)))
    all_goals first|(simp;done)|(simp at *;omega)|((try simp[h1,Xw]);refine Imp.aut ?_ ?_<;>simp[NLe,h1,Xw])
   ·by_cases h2:x<a*b
    ·have h3:¬ a*b≤x:=by omega
     have hb0:¬ b=0:=(by omega);have w1:IntKind.wrap .i64 (x.tdiv b)=x / b:=VE (by omega) (by omega) (by omega);unfold m37
     repeat' with_reducible (first|refine ZR.h ?_|refine zI ?_|(refine zK hE ?_;intro K hK;simp[h1,h2,h3,hcond,w1,hb0,Xw,d46];(repeat' (first|refine hK _ _ ?_|apply And.intro|(intro hc;try subst hc)))<;>(try clear hK K))|(refine zJ (fun hc=>?_) (fun hc=>?_)<;>simp at hc<;>(try subst hc)))
     all_goals first|(simp;done)|(simp at *;omega)|((try simp[h1,h2,h3,Xw]);refine Imp.aut ?_ ?_<;>simp[NLe,h1,h2,h3,Xw])
    ·have h3:a*b≤x:=by omega
     unfold m37
     repeat' with_reducible (first|refine ZR.h ?_|refine zI ?_|(refine zK hE ?_;intro K hK;simp[h1,h2,h3,hcond,Xw,d46];(repeat' (first|refine hK _ _ ?_|apply And.intro|(intro hc;try subst hc)))<;>(try clear hK K))|(refine zJ (fun hc=>?_) (fun hc=>?_)<;>simp at hc<;>(try subst hc)))
     all_goals first|(simp;done)|(simp at *;omega)|((try simp[h1,h2,h3,Xw]);refine Imp.aut ?_ ?_<;>simp[NLe,h1,h2,h3,Xw])
  ·cases h
 ·cases h
def d15:List AV→List NObj→Option AV
 | [.int .i64 _,.iface _ _],[]=>some (.iface 83 .bot)
 | _,_=>none
theorem ok15:ROk d15:=by
 intro xs os r h;unfold d15 at h
 (repeat' (split at h))<;>first|(cases h;done)|(injection h with h;subst h;simp)
theorem s15:Sound Try.prog 15 (rdS d15 ok15):=by
 refine Zn C15.a C15.b C15.c C15.d ok15 fun xs os r h vs ρ0 hvs=>⟨xs,?_,fun _ h=>h,fun w0 S hS=>?_⟩
 ·unfold d15 at h
  (repeat' (split at h))<;>first|(cases h;done)|exact Nat.le_of_ble_eq_true rfl
 unfold d15 at h;split at h
 ·skip
  injection h with h;subst h;have hE:Zd Try.prog (EL []):=Zf (by simp);unfold m15
  repeat' with_reducible (first|refine ZR.h ?_|refine zI ?_|(refine zK hE ?_;intro K hK;simp;(repeat' (first|refine hK _ _ ?_|apply And.intro|(intro hc;try subst hc)))<;>(try clear hK K))|(refine zJ (fun hc=>?_) (fun hc=>?_)<;>simp at hc<;>(try subst hc)))
  all_goals first|(simp;done)|(simp at *;omega)|((try simp);refine Imp.aut ?_ ?_<;>simp[NLe])
 ·cases h
structure TmZ where
 nm:Int
 sd:Int
 pr:Int
 le:Int
 un:Int
 deriving DecidableEq,Inhabited
end Go.W
