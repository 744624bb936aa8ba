/- Orders and events as rows; a model as an object. The resolved code of the functions, by a program. From one state to another one, with names told ahead. -/
import Derived.Test.YtnjdphaopmikgaaPsJ
import Derived.Test.YtnjdphaopmikgaaPsG
import Derived.Test.YtnjdphaopmikgaaWkC
import Derived.Test.YtnjdphaopmikgaaPsI
namespace Go.W
open Go.Proofs
set_option linter.unusedSimpArgs false
set_option linter.unusedVariables false
set_option maxHeartbeats 8000000
attribute [local simp] Yu lkp Ui prs Th prT ddL idL Yn U1 Ren Vz NObj.none ZZ
def orC (o:OrZ):List AV:=[.int .i64 o.c,.int .i64 o.g,.int .i64 o.t.nm,.int .i64 o.t.sd,.int .i64 o.t.pr,.int .i64 o.t.le,.int .i64 o.t.un,.int .i64 o.q,.int .i64 o.l,.int .i64 o.f,.bool o.a,.bool o.r,.int .i64 o.e]
def vz:List AV→Option OrZ
 | [.int .i64 c,.int .i64 g,.int .i64 nm,.int .i64 sd,.int .i64 pr,.int .i64 le,.int .i64 un,.int .i64 q,.int .i64 l,.int .i64 f,.bool a,.bool r,.int .i64 e]=>some ⟨c,g,⟨nm,sd,pr,le,un⟩,q,l,f,a,r,e⟩
 | _=>none
def evR (e:EvZ):List AV:=[.int .i64 e.k,.int .i64 e.c,.int .i64 e.g,.int .i64 e.o,.int .i64 e.w,.int .i64 e.t.nm,.int .i64 e.t.sd,.int .i64 e.t.pr,.int .i64 e.t.le,.int .i64 e.t.un,.int .i64 e.q,.int .i64 e.p,.int .i64 e.tk,.int .i64 e.e]
def YO:List AV→Option EvZ
 | [.int .i64 k,.int .i64 c,.int .i64 g,.int .i64 o,.int .i64 w,.int .i64 nm,.int .i64 sd,.int .i64 pr,.int .i64 le,.int .i64 un,.int .i64 q,.int .i64 p,.int .i64 tk,.int .i64 e]=>some ⟨k,c,g,o,w,⟨nm,sd,pr,le,un⟩,q,p,tk,e⟩
 | _=>none
theorem XM (o:OrZ):vz (orC o)=some o:=rfl
theorem Yb (e:EvZ):YO (evR e)=some e:=rfl
theorem VK {c:List AV} {o:OrZ} (h:vz c=some o):c=orC o:=by
 unfold vz at h;split at h
 ·injection h with h;subst h;rfl
 ·cases h
theorem ZD {c:List AV} {e:EvZ} (h:YO c=some e):c=evR e:=by
 unfold YO at h;split at h
 ·injection h with h;subst h;rfl
 ·cases h
def Xm {α:Type} (f:List AV→Option α):List (List AV)→Option (List α)
 | []=>some []
 | r :: l=>match f r,Xm f l with
  | some x,some y=>some (x :: y)
  | _,_=>none
theorem Zv {α:Type} {f:List AV→Option α} {g:α→List AV} (h:∀ x,f (g x)=some x):∀ L:List α,Xm f (L.map g)=some L
 | []=>rfl
 | x :: L=>by simp only[List.map_cons,Xm,h x,Zv h L]
theorem ZI {α:Type} {f:List AV→Option α} {g:α→List AV} (h:∀ r x,f r=some x→r=g x):∀ {l:List (List AV)} {L:List α},Xm f l=some L→l=L.map g
 | [],L,e=>by injection e with e;subst e;rfl
 | r :: l,L,e=>by
  simp only[Xm]at e;split at e
  ·rename_i x y h1 h2
   injection e with e;subst e;rw[h r x h1,ZI h h2];rfl
  ·cases e
def YZ (L:List OrZ):List (List AV):=L.map orC
def Zy (L:List EvZ):List (List AV):=L.map evR
theorem ZV {α:Type} {g:α→List AV} (h1:∀ x,t0L (g x)=g x) (h2:∀ x,clL (g x)=true):∀ L:List α,Xc (L.map g)=L.map g∧VW (L.map g)=true
 | []=>⟨rfl,rfl⟩
 | x :: L=>by
  obtain ⟨a,b⟩:=ZV h1 h2 L;exact ⟨by show t0L (g x) :: Xc (L.map g)=_;rw[h1,a];rfl,by show (clL (g x)&&VW (L.map g))=true;rw[h2,b];rfl⟩
theorem Ve {α:Type} {g:α→List AV} {n:Nat} (h:∀ x,tlL n (g x)=true):∀ L:List α,V4 n (L.map g)=true
 | []=>rfl
 | x :: L=>by show (tlL n (g x)&&V4 n (L.map g))=true;rw[h,Ve h L];rfl
theorem ZP (L:List OrZ):Xc (YZ L)=YZ L:=(ZV (fun o=>by simp[orC,t0L,AV.t0]) (fun o=>by simp[orC,clL,AV.cl]) L).1
theorem ZO (L:List OrZ):VW (YZ L)=true:=(ZV (fun o=>by simp[orC,t0L,AV.t0]) (fun o=>by simp[orC,clL,AV.cl]) L).2
theorem ZdO (n:Nat) (L:List OrZ):V4 n (YZ L)=true:=Ve (fun o=>by simp[orC,tlL,AV.tl]) L
theorem XO (L:List EvZ):Xc (Zy L)=Zy L:=(ZV (fun o=>by simp[evR,t0L,AV.t0]) (fun o=>by simp[evR,clL,AV.cl]) L).1
theorem XS (L:List EvZ):VW (Zy L)=true:=(ZV (fun o=>by simp[evR,t0L,AV.t0]) (fun o=>by simp[evR,clL,AV.cl]) L).2
theorem ev_tl (n:Nat) (L:List EvZ):V4 n (Zy L)=true:=Ve (fun o=>by simp[evR,tlL,AV.tl]) L
theorem ZaG (L:List OrZ):YJ (YZ L)=true:=List.all_eq_true.2 fun c hc=>by obtain ⟨o,_,rfl⟩:=List.mem_map.1 hc;rfl
theorem YN (L:List EvZ):YJ (Zy L)=true:=List.all_eq_true.2 fun c hc=>by obtain ⟨o,_,rfl⟩:=List.mem_map.1 hc;rfl
theorem Yk (L:List OrZ):(YZ L).length=L.length:=List.length_map ..
theorem Z6 (L:List EvZ):(Zy L).length=L.length:=List.length_map ..
theorem VY {L:List OrZ} {k:Nat} {x:OrZ} (h:L[k]?=some x):(YZ L)[k]?=some (orC x):=by unfold YZ;rw[List.getElem?_map,h];rfl
theorem VX {L:List EvZ} {k:Nat} {x:EvZ} (h:L[k]?=some x):(Zy L)[k]?=some (evR x):=by unfold Zy;rw[List.getElem?_map,h];rfl
theorem Zac (L:List OrZ) (k:Nat) (x:OrZ):(YZ L).set k (orC x)=YZ (L.set k x):=(List.map_set ..).symm
theorem ZdR (L:List OrZ) (x:OrZ):YZ L++[orC x]=YZ (L++[x]):=by unfold YZ;rw[List.map_append];rfl
theorem Zed (L:List EvZ) (x:EvZ):Zy L++[evR x]=Zy (L++[x]):=by unfold Zy;rw[List.map_append];rfl
structure MdZ where
 a:Int
 b:Int
 c:Int
 d:Int
 e:Int
 f:Int
 g:Int
 os:List OrZ
 now:Int
def mdC (M:MdZ):List AV:=[.int .i64 M.a,.int .i64 M.b,.int .i64 M.c,.int .i64 M.d,.int .i64 M.e,.int .i64 M.f,.int .i64 M.g,.os 0 13 (YZ M.os),.int .i64 M.now]
def zE:List AV→Option MdZ
 | [.int .i64 a,.int .i64 b,.int .i64 c,.int .i64 d,.int .i64 e,.int .i64 f,.int .i64 g,.os t 13 os,.int .i64 now]=>if t=0 then (match Xm vz os with
  | some L=>some ⟨a,b,c,d,e,f,g,L,now⟩
  | none=>none) else none
 | _=>none
theorem Yh (M:MdZ):zE (mdC M)=some M:=by
 unfold zE mdC YZ;simp only[if_true];rw[Zv (f:=vz) (g:=orC) XM]
theorem ZA {c:List AV} {M:MdZ} (h:zE c=some M):c=mdC M:=by
 unfold zE at h;split at h
 ·split at h
  ·rename_i ht
   subst ht;split at h
   ·rename_i hm
    injection h with h;subst h;rw[ZI (g:=orC) (fun _ _=>VK) hm];rfl
   ·cases h
  ·cases h
 ·cases h
theorem Vv (M:MdZ):t0L (mdC M)=mdC M:=by simp[mdC,t0L,AV.t0,ZP]
theorem Vt (M:MdZ):clL (mdC M)=true:=by simp[mdC,clL,AV.cl,ZO]
theorem xV (M:MdZ) (φ:Uh):Yn φ (mdC M) (mdC M):=by simp[mdC,ZP,ZO]
def X3 (c:Int):List OrZ→Option Nat
 | []=>none
 | o :: r=>match X3 c r with
  | some i=>some (i+1)
  | none=>if o.c=c then some 0 else none
theorem yS {c:Int}:∀ (os:List OrZ),match X3 c os with
  | some i=>∃ o,os[i]?=some o∧Yz c os=some o
  | none=>Yz c os=none
 | []=>rfl
 | o :: r=>by
  have h:=yS (c:=c) r;unfold X3 Yz;cases hr:X3 c r with
  | some i =>
   rw[hr]at h;obtain ⟨x,h1,h2⟩:=h;simp only[h2];exact ⟨x,by rw[List.getElem?_cons_succ];exact h1,rfl⟩
  | none =>
   rw[hr]at h;simp only[h];by_cases e:o.c=c
   ·rw[if_pos e,if_pos e]
    exact ⟨o,rfl,rfl⟩
   ·rw[if_neg e,if_neg e]
end Go.W
namespace Go.W
open Go.Proofs
set_option maxRecDepth 100000
@[simp] def q17_0:List MO:=[Ma 6 (.alloc [(.int .i64 0),(.int .i64 0),(.int .i64 0),(.int .i64 0),(.int .i64 0)])]
instance:KR Try.f17.ntmps q17_0:=.mk [0,1,2,6] 1
@[simp] def q17_1:List MO:=[Aa 7 0,Ma 8 (.eq false .ptr (.t 7) (.c (.raw (.pointer none)))),Aa 9 8,Aj 10 1 9 false,Mg 11 (.bin .lss (.t 10) (.c (.int .i64 0))) 9 false,Af 12 9 11,Aa 13 12,Aj 14 1 13 false,Aj 15 0 13 false,Ao 16 15 13 false,Ah 17 7 16 13 false,Ai 18 1 17 13 false,Mg 19 (.len (.t 18)) 13 false,Mg 20 (.bin .geq (.t 14) (.t 19)) 13 false,Af 21 13 20,Aa 22 21,Aj 23 2 22 false,Mg 24 (.bin .lss (.t 23) (.c (.int .i64 0))) 22 false,Af 25 22 24,Aa 26 25,Aj 27 2 26 false,Aj 28 0 26 false,Ao 29 28 26 false,Ah 30 7 29 26 false,Ai 31 1 30 26 false,Aj 32 1 26 false,Mg 33 (.iaddr 1 (.t 31) (.t 32)) 26 false,Ai 34 1 33 26 false,Mg 35 (.len (.t 34)) 26 false,Mg 36 (.bin .geq (.t 27) (.t 35)) 26 false,Af 37 26 36]
instance:KR Try.f17.ntmps q17_1:=.mk [0,1,2,6,37] 31
@[simp] def q17_2:List MO:=[Ma 38 (.build [(.int .i64 0),(.int .i64 0),(.int .i64 0),(.int .i64 0),(.int .i64 0)] []),Ae 5 6 38]
instance:KR Try.f17.ntmps q17_2:=.mk [6] 2
@[simp] def q17_3:List MO:=[Aa 39 0,Ad 40 39,Ab 41 7 40,Ac 42 1 41,Aa 43 1,Am 44 1 42 43,Ac 45 1 44,Aa 46 2,Am 47 5 45 46,Ag 48 5 47,Ae 5 6 48]
instance:KR Try.f17.ntmps q17_3:=.mk [6] 11
def m17:MCode:=.seq (.reg q17_0) (.seq (.seq (.reg q17_1) (.cond (.t 37) (.seq (.reg q17_2) .ret) .skip)) (.seq (.reg q17_3) .ret))
theorem C17:CO Try.prog 17 Try.f17 m17 [(.c true 5 6)]:=.mk Try.func17
@[simp] def q20_0:List MO:=[An 1 0,Ma 2 (.mv (.c (.raw (.pointer none))))]
instance:KR Try.f20.ntmps q20_0:=.mk [1] 2
@[simp] def q20_1:List MO:=[Ag 3 7 1,Ma 4 (.build [(.int .i64 0),(.int .i64 0),(.int .i64 0),(.int .i64 0),(.int .i64 0),(.int .i64 0),(.int .i64 0),.nsl,(.int .i64 0)] [(0,(7,(.t 3)))]),An 5 4,Aa 2 5]
instance:KR Try.f20.ntmps q20_1:=.mk [2] 4
def m20:MCode:=.seq (.reg q20_0) (.seq (.reg q20_1) .ret)
theorem C20:CO Try.prog 20 Try.f20 m20 [(.t 2)]:=.mk Try.func20
@[simp] def q24_0:List MO:=[Ma 2 (.mv (.c .nsl))]
instance:KR Try.f24.ntmps q24_0:=.mk [0] 1
@[simp] def q24_1:List MO:=[Aa 3 0,Ma 4 (.eq false .slice (.t 3) (.c .nsl))]
instance:KR Try.f24.ntmps q24_1:=.mk [0,4] 2
@[simp] def q24_2:List MO:=[Ma 2 (.mv (.c .nsl))]
instance:KR Try.f24.ntmps q24_2:=.mk [2] 1
@[simp] def q24_3:List MO:=[Ma 5 (.bsl 1 0 [(.int .i64 0)] []),Aa 6 0,Ma 7 (.app 1 8 (.t 5) (.t 6)),Aa 2 7]
instance:KR Try.f24.ntmps q24_3:=.mk [2] 4
def m24:MCode:=.seq (.reg q24_0) (.seq (.seq (.reg q24_1) (.cond (.t 4) (.seq (.reg q24_2) .ret) .skip)) (.seq (.reg q24_3) .ret))
theorem C24:CO Try.prog 24 Try.f24 m24 [(.t 2)]:=.mk Try.func24
@[simp] def q25_0:List MO:=[Ma 2 (.mv (.c (.int .i64 0)))]
instance:KR Try.f25.ntmps q25_0:=.mk [0] 1
@[simp] def q25_1:List MO:=[Aa 5 0,Ma 6 (.len (.t 5)),Ma 7 (.bin .lss (.t 6) (.c (.int .i64 1)))]
instance:KR Try.f25.ntmps q25_1:=.mk [0,7] 3
@[simp] def q25_2:List MO:=[Ma 8 (.mkif 9 (.c (.str (ByteArray.mk #[115,108,105,99,101,115,46,77,97,120,58,32,101,109,112,116,121,32,108,105,115,116])))),Mb .stop]
instance:KR Try.f25.ntmps q25_2:=.mk [0] 2
@[simp] def q25_3:List MO:=[Aa 9 0,Ma 10 (.iaddr 1 (.t 9) (.c (.int .i64 0))),Ac 11 1 10,Aa 3 11]
instance:KR Try.f25.ntmps q25_3:=.mk [0,3] 4
@[simp] def q25_4:List MO:=[Ma 4 (.mv (.c (.int .i64 1)))]
instance:KR Try.f25.ntmps q25_4:=.mk [0,3,4] 1
@[simp] def q25_5:List MO:=[Aa 12 4,Aa 13 0,Ma 14 (.len (.t 13)),Ma 15 (.bin .lss (.t 12) (.t 14))]
instance:KR Try.f25.ntmps q25_5:=.mk [0,3,4,15] 4
@[simp] def q25_6:List MO:=[Aa 18 3,Aa 19 0,Aa 20 4,Am 21 1 19 20,Ac 22 1 21,Ma 23 (.mx [(.t 18),(.t 22)]),Aa 3 23]
instance:KR Try.f25.ntmps q25_6:=.mk [0,3,4] 7
@[simp] def q25_7:List MO:=[Aa 16 4,Ma 17 (.bin .add (.t 16) (.c (.int .i64 1))),Aa 4 17]
instance:KR Try.f25.ntmps q25_7:=.mk [0,3,4] 3
@[simp] def q25_8:List MO:=[Aa 24 3,Aa 2 24]
instance:KR Try.f25.ntmps q25_8:=.mk [2] 2
def m25:MCode:=.seq (.reg q25_0) (.seq (.seq (.reg q25_1) (.cond (.t 7) (.reg q25_2) .skip)) (.seq (.reg q25_3) (.seq (.seq (.reg q25_4) (.block 0 (.loop (.seq (.seq (.reg q25_5) (.cond (.t 15) .skip (.exit 0))) (.seq (.block 1 (.reg q25_6)) (.reg q25_7)))))) (.seq (.reg q25_8) .ret))))
theorem C25:CO Try.prog 25 Try.f25 m25 [(.t 2)]:=.mk Try.func25
@[simp] def q26_0:List MO:=[Ma 2 (.mv (.c (.int .i64 0)))]
instance:KR Try.f26.ntmps q26_0:=.mk [0] 1
@[simp] def q26_1:List MO:=[Aa 5 0,Ma 6 (.len (.t 5)),Ma 7 (.bin .lss (.t 6) (.c (.int .i64 1)))]
instance:KR Try.f26.ntmps q26_1:=.mk [0,7] 3
@[simp] def q26_2:List MO:=[Ma 8 (.mkif 9 (.c (.str (ByteArray.mk #[115,108,105,99,101,115,46,77,105,110,58,32,101,109,112,116,121,32,108,105,115,116])))),Mb .stop]
instance:KR Try.f26.ntmps q26_2:=.mk [0] 2
@[simp] def q26_3:List MO:=[Aa 9 0,Ma 10 (.iaddr 1 (.t 9) (.c (.int .i64 0))),Ac 11 1 10,Aa 3 11]
instance:KR Try.f26.ntmps q26_3:=.mk [0,3] 4
@[simp] def q26_4:List MO:=[Ma 4 (.mv (.c (.int .i64 1)))]
instance:KR Try.f26.ntmps q26_4:=.mk [0,3,4] 1
@[simp] def q26_5:List MO:=[Aa 12 4,Aa 13 0,Ma 14 (.len (.t 13)),Ma 15 (.bin .lss (.t 12) (.t 14))]
instance:KR Try.f26.ntmps q26_5:=.mk [0,3,4,15] 4
@[simp] def q26_6:List MO:=[Aa 18 3,Aa 19 0,Aa 20 4,Am 21 1 19 20,Ac 22 1 21,Ma 23 (.mn [(.t 18),(.t 22)]),Aa 3 23]
instance:KR Try.f26.ntmps q26_6:=.mk [0,3,4] 7
@[simp] def q26_7:List MO:=[Aa 16 4,Ma 17 (.bin .add (.t 16) (.c (.int .i64 1))),Aa 4 17]
instance:KR Try.f26.ntmps q26_7:=.mk [0,3,4] 3
@[simp] def q26_8:List MO:=[Aa 24 3,Aa 2 24]
instance:KR Try.f26.ntmps q26_8:=.mk [2] 2
def m26:MCode:=.seq (.reg q26_0) (.seq (.seq (.reg q26_1) (.cond (.t 7) (.reg q26_2) .skip)) (.seq (.reg q26_3) (.seq (.seq (.reg q26_4) (.block 0 (.loop (.seq (.seq (.reg q26_5) (.cond (.t 15) .skip (.exit 0))) (.seq (.block 1 (.reg q26_6)) (.reg q26_7)))))) (.seq (.reg q26_8) .ret))))
theorem C26:CO Try.prog 26 Try.f26 m26 [(.t 2)]:=.mk Try.func26
@[simp] def q29_0:List MO:=[An 4 0,Ma 8 (.alloc [(.int .i64 0),(.int .i64 0),(.int .i64 0),(.int .i64 0),(.int .i64 0),(.int .i64 0),(.int .i64 0),(.int .i64 0),(.int .i64 0),(.int .i64 0),(.bool false),(.bool false),(.int .i64 0)]),Ma 9 (.mv (.c (.int .i64 0)))]
instance:KR Try.f29.ntmps q29_0:=.mk [1,2,3,4,8] 3
@[simp] def q29_1:List MO:=[Ag 13 7 4,Aa 14 1,Aa 15 2,Aa 16 3,Ma 17 (.call (.c (.fn 23 [])) [(.t 13),(.t 14),(.t 15),(.t 16)]),Aa 12 17,Ak 18 12 0,Ak 19 12 1,Ma 10 (.alloc [(.int .i64 0),(.int .i64 0),(.int .i64 0),(.int .i64 0),(.int .i64 0),(.int .i64 0),(.int .i64 0),(.int .i64 0),(.int .i64 0),(.int .i64 0),(.bool false),(.bool false),(.int .i64 0)]),Ae 13 10 18,Aa 11 19]
instance:KR Try.f29.ntmps q29_1:=.mk [8,10,11] 11
@[simp] def q29_2:List MO:=[Aa 20 11,Ma 21 (.un .not (.t 20))]
instance:KR Try.f29.ntmps q29_2:=.mk [8,10,21] 2
@[simp] def q29_3:List MO:=[Ag 22 13 10,Ae 13 8 22,Ma 9 (.mv (.c (.int .i64 3)))]
instance:KR Try.f29.ntmps q29_3:=.mk [8,9] 3
@[simp] def q29_4:List MO:=[Ab 23 12 10,Ac 24 1 23,Ma 25 (.bin .neq (.t 24) (.c (.int .i64 0)))]
instance:KR Try.f29.ntmps q29_4:=.mk [8,10,25] 3
@[simp] def q29_5:List MO:=[Ag 26 13 10,Ae 13 8 26,Ma 9 (.mv (.c (.int .i64 29)))]
instance:KR Try.f29.ntmps q29_5:=.mk [8,9] 3
@[simp] def q29_6:List MO:=[Ag 27 13 10,Ae 13 8 27,Ma 9 (.mv (.c (.int .i64 0)))]
instance:KR Try.f29.ntmps q29_6:=.mk [8,9] 3
def m29:MCode:=.seq (.reg q29_0) (.seq (.reg q29_1) (.seq (.seq (.reg q29_2) (.cond (.t 21) (.seq (.reg q29_3) .ret) .skip)) (.seq (.seq (.reg q29_4) (.cond (.t 25) (.seq (.reg q29_5) .ret) .skip)) (.seq (.reg q29_6) .ret))))
theorem C29:CO Try.prog 29 Try.f29 m29 [(.c true 13 8),(.t 9)]:=.mk Try.func29
@[simp] def q30_0:List MO:=[An 2 0,An 3 1,Ma 4 (.mv (.c (.int .i64 0)))]
instance:KR Try.f30.ntmps q30_0:=.mk [2,3] 3
@[simp] def q30_1:List MO:=[Ab 5 8 3,Ac 6 1 5,Ma 7 (.bin .eql (.t 6) (.c (.int .i64 0)))]
instance:KR Try.f30.ntmps q30_1:=.mk [2,3,7] 3
@[simp] def q30_2:List MO:=[Ma 4 (.mv (.c (.int .i64 5)))]
instance:KR Try.f30.ntmps q30_2:=.mk [4] 1
@[simp] def q30_3:List MO:=[Ab 8 9 3,Ac 9 1 8,Ab 10 5 2,Ac 11 1 10,Ma 12 (.bin .geq (.t 9) (.t 11))]
instance:KR Try.f30.ntmps q30_3:=.mk [12] 5
@[simp] def q30_4:List MO:=[Ma 4 (.mv (.c (.int .i64 8)))]
instance:KR Try.f30.ntmps q30_4:=.mk [4] 1
@[simp] def q30_5:List MO:=[Ma 4 (.mv (.c (.int .i64 0)))]
instance:KR Try.f30.ntmps q30_5:=.mk [4] 1
def m30:MCode:=.seq (.reg q30_0) (.seq (.seq (.reg q30_1) (.cond (.t 7) (.seq (.reg q30_2) .ret) .skip)) (.seq (.seq (.reg q30_3) (.cond (.t 12) (.seq (.reg q30_4) .ret) .skip)) (.seq (.reg q30_5) .ret)))
theorem C30:CO Try.prog 30 Try.f30 m30 [(.t 4)]:=.mk Try.func30
@[simp] def q38_0:List MO:=[An 2 0,An 3 1,Ma 4 (.alloc [(.int .i64 0),(.int .i64 0),(.int .i64 0),(.int .i64 0),(.int .i64 0)])]
instance:KR Try.f38.ntmps q38_0:=.mk [2,3,4] 3
@[simp] def q38_1:List MO:=[Ab 5 0 2,Ac 6 1 5,Ab 7 0 3,Ac 8 1 7,Ma 9 (.bin .add (.t 6) (.t 8)),Ab 10 1 2,Ac 11 1 10,Ab 12 1 3,Ac 13 1 12,Ma 14 (.bin .add (.t 11) (.t 13)),Ab 15 2 2,Ac 16 1 15,Ab 17 2 3,Ac 18 1 17,Ma 19 (.bin .add (.t 16) (.t 18)),Ab 20 3 2,Ac 21 1 20,Ab 22 3 3,Ac 23 1 22,Ma 24 (.bin .add (.t 21) (.t 23)),Ab 25 4 2,Ac 26 1 25,Ab 27 4 3,Ac 28 1 27,Ma 29 (.bin .add (.t 26) (.t 28)),Ma 30 (.build [(.int .i64 0),(.int .i64 0),(.int .i64 0),(.int .i64 0),(.int .i64 0)] [(0,(1,(.t 9))),(1,(1,(.t 14))),(2,(1,(.t 19))),(3,(1,(.t 24))),(4,(1,(.t 29)))]),Ae 5 4 30]
instance:KR Try.f38.ntmps q38_1:=.mk [4] 27
def m38:MCode:=.seq (.reg q38_0) (.seq (.reg q38_1) .ret)
theorem C38:CO Try.prog 38 Try.f38 m38 [(.c true 5 4)]:=.mk Try.func38
@[simp] def q40_0:List MO:=[An 4 0,An 5 1,Ma 8 (.mv (.c (.raw .nilIface)))]
instance:KR Try.f40.ntmps q40_0:=.mk [2,3,4,5] 3
@[simp] def q40_1:List MO:=[Ab 10 0 5,Ac 11 1 10,Ma 12 (.bin .lss (.t 11) (.c (.int .i64 0))),Aa 13 12,Ah 14 0 5 13 false,Ai 15 1 14 13 false,Ah 16 0 4 13 false,Ah 17 2 16 13 false,Ai 18 1 17 13 false,Mg 19 (.bin .geq (.t 15) (.t 18)) 13 false,Af 20 13 19,Aa 9 20]
instance:KR Try.f40.ntmps q40_1:=.mk [2,3,5,9] 12
@[simp] def q40_2:List MO:=[Ma 21 (.mkif 62 (.c (.int .i64 22))),Aa 8 21]
instance:KR Try.f40.ntmps q40_2:=.mk [8] 2
@[simp] def q40_3:List MO:=[Ab 23 1 5,Ac 24 1 23,Ma 25 (.bin .neq (.t 24) (.c (.int .i64 0))),Aa 26 25,Ah 27 1 5 26 true,Ai 28 1 27 26 true,Mg 29 (.bin .neq (.t 28) (.c (.int .i64 1))) 26 true,Al 30 26 29,Aa 22 30]
instance:KR Try.f40.ntmps q40_3:=.mk [2,3,5,22] 9
@[simp] def q40_4:List MO:=[Ma 31 (.mkif 62 (.c (.int .i64 1))),Aa 8 31]
instance:KR Try.f40.ntmps q40_4:=.mk [8] 2
@[simp] def q40_5:List MO:=[Aa 33 2,Ma 34 (.bin .lss (.t 33) (.c (.int .i64 1))),Aa 35 34,Aj 36 2 35 false,Mg 37 (.bin .gtr (.t 36) (.c (.int .i64 9999))) 35 false,Af 38 35 37,Aa 32 38]
instance:KR Try.f40.ntmps q40_5:=.mk [2,3,5,32] 7
@[simp] def q40_6:List MO:=[Ma 39 (.mkif 62 (.c (.int .i64 23))),Aa 8 39]
instance:KR Try.f40.ntmps q40_6:=.mk [8] 2
@[simp] def q40_7:List MO:=[Ab 41 2 5,Ac 42 1 41,Ma 43 (.bin .lss (.t 42) (.c (.int .i64 1))),Aa 44 43,Ah 45 2 5 44 false,Ai 46 1 45 44 false,Mg 47 (.bin .gtr (.t 46) (.c (.int .i64 9999))) 44 false,Af 48 44 47,Aa 40 48]
instance:KR Try.f40.ntmps q40_7:=.mk [2,3,5,40] 9
@[simp] def q40_8:List MO:=[Ma 49 (.mkif 62 (.c (.int .i64 24))),Aa 8 49]
instance:KR Try.f40.ntmps q40_8:=.mk [8] 2
@[simp] def q40_9:List MO:=[Ab 51 3 5,Ac 52 1 51,Ma 53 (.bin .lss (.t 52) (.c (.int .i64 1))),Aa 54 53,Ah 55 3 5 54 false,Ai 56 1 55 54 false,Aj 57 2 54 false,Mg 58 (.bin .gtr (.t 56) (.t 57)) 54 false,Af 59 54 58,Aa 50 59]
instance:KR Try.f40.ntmps q40_9:=.mk [3,5,50] 10
@[simp] def q40_10:List MO:=[Ma 60 (.mkif 62 (.c (.int .i64 25))),Aa 8 60]
instance:KR Try.f40.ntmps q40_10:=.mk [8] 2
@[simp] def q40_11:List MO:=[Ab 62 4 5,Ac 63 1 62,Aa 64 3,Ma 65 (.bin .leq (.t 63) (.t 64)),Aa 66 65,Ah 67 4 5 66 false,Ai 68 1 67 66 false,Mg 69 (.bin .gtr (.t 68) (.c (.int .i64 1000000))) 66 false,Af 70 66 69,Aa 61 70]
instance:KR Try.f40.ntmps q40_11:=.mk [61] 10
@[simp] def q40_12:List MO:=[Ma 71 (.mkif 62 (.c (.int .i64 26))),Aa 8 71]
instance:KR Try.f40.ntmps q40_12:=.mk [8] 2
@[simp] def q40_13:List MO:=[Ma 8 (.mv (.c (.raw .nilIface)))]
instance:KR Try.f40.ntmps q40_13:=.mk [8] 1
def m40:MCode:=.seq (.reg q40_0) (.seq (.block 0 (.seq (.reg q40_1) (.cond (.t 9) (.seq (.reg q40_2) .ret) (.seq (.reg q40_3) (.cond (.t 22) (.seq (.reg q40_4) .ret) (.seq (.reg q40_5) (.cond (.t 32) (.seq (.reg q40_6) .ret) (.seq (.reg q40_7) (.cond (.t 40) (.seq (.reg q40_8) .ret) (.seq (.reg q40_9) (.cond (.t 50) (.seq (.reg q40_10) .ret) (.seq (.reg q40_11) (.cond (.t 61) (.seq (.reg q40_12) .ret) .skip))))))))))))) (.seq (.reg q40_13) .ret))
theorem C40:CO Try.prog 40 Try.f40 m40 [(.t 8)]:=.mk Try.func40
@[simp] def q42_0:List MO:=[Ma 2 (.mv (.c (.raw .nilIface)))]
instance:KR Try.f42.ntmps q42_0:=.mk [0] 1
@[simp] def q42_1:List MO:=[Aa 5 0,Ma 6 (.len (.t 5)),Ma 7 (.mv (.c (.int .i64 0)))]
instance:KR Try.f42.ntmps q42_1:=.mk [5,6,7] 3
@[simp] def q42_2:List MO:=[Ma 8 (.bin .lss (.t 7) (.t 6))]
instance:KR Try.f42.ntmps q42_2:=.mk [5,6,7,8] 1
@[simp] def q42_3:List MO:=[Am 9 1 5 7,Ac 10 1 9,Aa 4 10]
instance:KR Try.f42.ntmps q42_3:=.mk [4,5,6,7] 3
@[simp] def q42_4:List MO:=[Aa 11 4,Ma 12 (.eq true .iface (.t 11) (.c (.raw .nilIface)))]
instance:KR Try.f42.ntmps q42_4:=.mk [4,5,6,7,12] 2
@[simp] def q42_5:List MO:=[Aa 13 4,Aa 2 13]
instance:KR Try.f42.ntmps q42_5:=.mk [2] 2
@[simp] def q42_6:List MO:=[Ma 14 (.bin .add (.t 7) (.c (.int .i64 1))),Aa 7 14]
instance:KR Try.f42.ntmps q42_6:=.mk [5,6,7] 2
@[simp] def q42_7:List MO:=[Ma 2 (.mv (.c (.raw .nilIface)))]
instance:KR Try.f42.ntmps q42_7:=.mk [2] 1
def m42:MCode:=.seq (.reg q42_0) (.seq (.seq (.reg q42_1) (.block 0 (.loop (.seq (.reg q42_2) (.seq (.cond (.t 8) .skip (.exit 0)) (.seq (.block 1 (.seq (.reg q42_3) (.seq (.reg q42_4) (.cond (.t 12) (.seq (.reg q42_5) .ret) .skip)))) (.reg q42_6))))))) (.seq (.reg q42_7) .ret))
theorem C42:CO Try.prog 42 Try.f42 m42 [(.t 2)]:=.mk Try.func42
@[simp] def q48_0:List MO:=[Ma 4 (.mv (.c (.int .i64 0)))]
instance:KR Try.f48.ntmps q48_0:=.mk [0,1] 1
@[simp] def q48_1:List MO:=[Aa 6 0,Ma 7 (.len (.t 6)),Ma 8 (.mv (.c (.int .i64 0)))]
instance:KR Try.f48.ntmps q48_1:=.mk [0,1,7,8] 3
@[simp] def q48_2:List MO:=[Ma 9 (.bin .lss (.t 8) (.t 7))]
instance:KR Try.f48.ntmps q48_2:=.mk [0,1,7,8,9] 1
@[simp] def q48_3:List MO:=[Aa 10 8,Aa 5 10]
instance:KR Try.f48.ntmps q48_3:=.mk [0,1,5,7,8] 2
@[simp] def q48_4:List MO:=[Aa 11 1,Aa 12 0,Aa 13 5,Am 14 13 12 13,Ag 15 13 14,Ma 16 (.call (.t 11) [(.t 15)])]
instance:KR Try.f48.ntmps q48_4:=.mk [0,1,5,7,8,16] 6
@[simp] def q48_5:List MO:=[Aa 17 5,Aa 4 17]
instance:KR Try.f48.ntmps q48_5:=.mk [4] 2
@[simp] def q48_6:List MO:=[Ma 18 (.bin .add (.t 8) (.c (.int .i64 1))),Aa 8 18]
instance:KR Try.f48.ntmps q48_6:=.mk [0,1,7,8] 2
@[simp] def q48_7:List MO:=[Ma 4 (.mv (.c (.int .i64 (-1))))]
instance:KR Try.f48.ntmps q48_7:=.mk [4] 1
def m48:MCode:=.seq (.reg q48_0) (.seq (.seq (.reg q48_1) (.block 0 (.loop (.seq (.reg q48_2) (.seq (.cond (.t 9) .skip (.exit 0)) (.seq (.block 1 (.seq (.reg q48_3) (.seq (.reg q48_4) (.cond (.t 16) (.seq (.reg q48_5) .ret) .skip)))) (.reg q48_6))))))) (.seq (.reg q48_7) .ret))
theorem C48:CO Try.prog 48 Try.f48 m48 [(.t 4)]:=.mk Try.func48
@[simp] def q49_0:List MO:=[An 3 0,Ma 4 (.mv (.c (.bool false)))]
instance:KR Try.f49.ntmps q49_0:=.mk [1,2,3] 2
@[simp] def q49_1:List MO:=[Ab 5 0 3,Ac 6 1 5,Ac 7 1 1,Ma 8 (.bin .eql (.t 6) (.t 7)),Aa 9 8,Ah 10 1 3 9 true,Ai 11 1 10 9 true,Ai 12 1 2 9 true,Mg 13 (.bin .eql (.t 11) (.t 12)) 9 true,Al 14 9 13,Aa 4 14]
instance:KR Try.f49.ntmps q49_1:=.mk [4] 11
def m49:MCode:=.seq (.reg q49_0) (.seq (.reg q49_1) .ret)
theorem C49:CO Try.prog 49 Try.f49 m49 [(.t 4)]:=.mk Try.func49
@[simp] def q45_0:List MO:=[An 4 1,An 5 2,Ma 6 (.mv (.c (.int .i64 0)))]
instance:KR Try.f45.ntmps q45_0:=.mk [0,4,5] 3
@[simp] def q45_1:List MO:=[Aa 7 0,Ad 8 7,Ab 9 7 8,Ac 10 1 9,Ma 11 (.mkfn 49 [(.t 4),(.t 5)]),Ma 12 (.call (.c (.fn 48 [])) [(.t 10),(.t 11)]),Aa 6 12]
instance:KR Try.f45.ntmps q45_1:=.mk [6] 7
def m45:MCode:=.seq (.reg q45_0) (.seq (.reg q45_1) .ret)
theorem C45:CO Try.prog 45 Try.f45 m45 [(.t 6)]:=.mk Try.func45
@[simp] def q41_0:List MO:=[Ma 6 (.mv (.c (.int .i64 0))),Ma 7 (.mv (.c (.raw .nilIface)))]
instance:KR Try.f41.ntmps q41_0:=.mk [0,1,2] 2
@[simp] def q41_1:List MO:=[Aa 9 0,Aa 10 1,Aa 11 2,Ma 12 (.call (.c (.fn 45 [])) [(.t 9),(.t 10),(.t 11)]),Aa 8 12]
instance:KR Try.f41.ntmps q41_1:=.mk [0,8] 5
@[simp] def q41_2:List MO:=[Aa 14 8,Ma 15 (.bin .lss (.t 14) (.c (.int .i64 0))),Aa 13 15]
instance:KR Try.f41.ntmps q41_2:=.mk [0,8,13] 3
@[simp] def q41_3:List MO:=[Ma 16 (.mkif 62 (.c (.int .i64 3))),Ma 6 (.mv (.c (.int .i64 (-1)))),Aa 7 16]
instance:KR Try.f41.ntmps q41_3:=.mk [6,7] 3
@[simp] def q41_4:List MO:=[Aa 18 0,Ad 19 18,Ab 20 7 19,Ac 21 1 20,Aa 22 8,Am 23 13 21 22,Ab 24 12 23,Ac 25 1 24,Ma 26 (.bin .neq (.t 25) (.c (.int .i64 0))),Aa 17 26]
instance:KR Try.f41.ntmps q41_4:=.mk [8,17] 10
@[simp] def q41_5:List MO:=[Ma 27 (.mkif 62 (.c (.int .i64 29))),Ma 6 (.mv (.c (.int .i64 (-1)))),Aa 7 27]
instance:KR Try.f41.ntmps q41_5:=.mk [6,7] 3
@[simp] def q41_6:List MO:=[Aa 28 8,Aa 6 28,Ma 7 (.mv (.c (.raw .nilIface)))]
instance:KR Try.f41.ntmps q41_6:=.mk [6,7] 3
def m41:MCode:=.seq (.reg q41_0) (.seq (.reg q41_1) (.seq (.block 0 (.seq (.reg q41_2) (.cond (.t 13) (.seq (.reg q41_3) .ret) (.seq (.reg q41_4) (.cond (.t 17) (.seq (.reg q41_5) .ret) .skip))))) (.seq (.reg q41_6) .ret)))
theorem C41:CO Try.prog 41 Try.f41 m41 [(.t 6),(.t 7)]:=.mk Try.func41
@[simp] def q43_0:List MO:=[An 3 1,Ma 4 (.mv (.c (.int .i64 0)))]
instance:KR Try.f43.ntmps q43_0:=.mk [0,3] 2
@[simp] def q43_1:List MO:=[Ab 6 8 3,Ac 7 1 6,Ma 8 (.bin .eql (.t 7) (.c (.int .i64 0))),Aa 5 8]
instance:KR Try.f43.ntmps q43_1:=.mk [0,3,5] 4
@[simp] def q43_2:List MO:=[Ma 4 (.mv (.c (.int .i64 5)))]
instance:KR Try.f43.ntmps q43_2:=.mk [4] 1
@[simp] def q43_3:List MO:=[Ab 10 9 3,Ac 11 1 10,Aa 12 0,Ad 13 12,Ab 14 0 13,Ab 15 0 14,Ab 16 5 15,Ac 17 1 16,Ma 18 (.bin .geq (.t 11) (.t 17)),Aa 9 18]
def p43_3:List (List Nat):=[[],[0],[],[2],[3],[4],[5],[6],[1,7],[8]]
instance:KD Try.f43.ntmps q43_3 p43_3:=.mk [[],[0],[],[2],[2,3],[2,3,4],[2,3,4,5],[2,3,4,5,6],[0,1,2,3,4,5,6,7],[0,1,2,3,4,5,6,7,8]] [9] 10
@[simp] def q43_4:List MO:=[Ma 4 (.mv (.c (.int .i64 8)))]
instance:KR Try.f43.ntmps q43_4:=.mk [4] 1
@[simp] def q43_5:List MO:=[Ma 4 (.mv (.c (.int .i64 0)))]
instance:KR Try.f43.ntmps q43_5:=.mk [4] 1
def m43:MCode:=.seq (.reg q43_0) (.seq (.block 0 (.seq (.reg q43_1) (.cond (.t 5) (.seq (.reg q43_2) .ret) (.seq (.draw q43_3 p43_3) (.cond (.t 9) (.seq (.reg q43_4) .ret) .skip))))) (.seq (.reg q43_5) .ret))
theorem C43:CO Try.prog 43 Try.f43 m43 [(.t 4)]:=.mk Try.func43
@[simp] def q39_0:List MO:=[Ma 4 (.mv (.c (.int .i64 0)))]
instance:KR Try.f39.ntmps q39_0:=.mk [0,1] 1
@[simp] def q39_1:List MO:=[Ma 5 (.mv (.c (.int .i64 (-1))))]
instance:KR Try.f39.ntmps q39_1:=.mk [0,1,5] 1
@[simp] def q39_2:List MO:=[Aa 8 0,Ad 9 8,Ab 10 7 9,Ac 11 1 10,Ma 12 (.len (.t 11)),Ma 13 (.mv (.c (.int .i64 0)))]
instance:KR Try.f39.ntmps q39_2:=.mk [1,5,11,12,13] 6
@[simp] def q39_3:List MO:=[Ma 14 (.bin .lss (.t 13) (.t 12))]
instance:KR Try.f39.ntmps q39_3:=.mk [1,5,11,12,13,14] 1
@[simp] def q39_4:List MO:=[Aa 15 13,Am 16 13 11 13,Ag 17 13 16,Ma 7 (.alloc [(.int .i64 0),(.int .i64 0),(.int .i64 0),(.int .i64 0),(.int .i64 0),(.int .i64 0),(.int .i64 0),(.int .i64 0),(.int .i64 0),(.int .i64 0),(.bool false),(.bool false),(.int .i64 0)]),Aa 6 15,Ae 13 7 17]
instance:KR Try.f39.ntmps q39_4:=.mk [1,5,6,7,11,12,13] 6
@[simp] def q39_5:List MO:=[Ab 18 0 7,Ac 19 1 18,Aa 20 1,Ma 21 (.bin .eql (.t 19) (.t 20))]
instance:KR Try.f39.ntmps q39_5:=.mk [1,5,6,11,12,13,21] 4
@[simp] def q39_6:List MO:=[Aa 22 6,Aa 5 22]
instance:KR Try.f39.ntmps q39_6:=.mk [1,5,11,12,13] 2
@[simp] def q39_7:List MO:=[Ma 23 (.bin .add (.t 13) (.c (.int .i64 1))),Aa 13 23]
instance:KR Try.f39.ntmps q39_7:=.mk [1,5,11,12,13] 2
@[simp] def q39_8:List MO:=[Aa 24 5,Aa 4 24]
instance:KR Try.f39.ntmps q39_8:=.mk [4] 2
def m39:MCode:=.seq (.reg q39_0) (.seq (.reg q39_1) (.seq (.seq (.reg q39_2) (.block 0 (.loop (.seq (.reg q39_3) (.seq (.cond (.t 14) .skip (.exit 0)) (.seq (.block 1 (.seq (.reg q39_4) (.seq (.reg q39_5) (.cond (.t 21) (.reg q39_6) .skip)))) (.reg q39_7))))))) (.seq (.reg q39_8) .ret)))
theorem C39:CO Try.prog 39 Try.f39 m39 [(.t 4)]:=.mk Try.func39
def Zg (m:Nat) (ex:List (Nat×Option Nat)) (s s':St):List (Nat×Option Nat):=ddL (idL m++(ex++prT s.tl s'.tl))
theorem Imp.autoX {m:Nat} {s s':St} (ex:List (Nat×Option Nat)) (h:plB m (Zg m ex s s') s'.nb=true) (ht:∀ p,p∈s'.tl→Ren (Yu (Zg m ex s s') (hk s.hl) (hk s'.hl)) (lk s.tl p.1) p.2)
  (ho:∀ p,p∈s'.hl→p.2.tag<s'.nb∧(match lkp (Zg m ex s s') p.1 with
  | some (some y)=>NLe (Yu (Zg m ex s s') (hk s.hl) (hk s'.hl)) (hk s.hl y) p.2
  | some none=>p.2.none
  | none=>p.2=.free)):Imp m s s':=Imp.le _ (LeN.mk' h ht ho)
set_option linter.unusedSimpArgs false
set_option linter.unusedVariables false
set_option maxHeartbeats 8000000
attribute [local irreducible] Wm
attribute [local simp] Yu lkp Ui prs Th prT ddL idL Yn U1 Ren Vz NObj.none ZZ
def d30:List AV→List NObj→Option AV
 | [.agg [.int .i64 a,.int .i64 b,.int .i64 c,.int .i64 d,.int .i64 e,.int .i64 f,.int .i64 g],.agg oc],[]=>(match vz oc with
  | some o=>some (.int .i64 (byO f o))
  | none=>none)
 | _,_=>none
theorem ok30:ROk d30:=by
 intro xs os r h;unfold d30 at h
 (repeat' (split at h))<;>first|(cases h;done)|(injection h with h;subst h;simp)
theorem s30:Sound Try.prog 30 (rdS d30 ok30):=by
 refine Zn C30.a C30.b C30.c C30.d ok30 fun xs os r h vs ρ0 hvs=>⟨xs,?_,fun _ h=>h,fun w0 S hS=>?_⟩
 ·unfold d30 at h
  (repeat' (split at h))<;>first|(cases h;done)|exact Nat.le_of_ble_eq_true rfl
 unfold d30 at h;split at h
 ·rename_i a b c d e f g oc
  split at h
  ·rename_i o ho
   injection h with h;subst h;obtain rfl:=VK ho;clear ho;have hE:Zd Try.prog (EL []):=Zf (by simp);simp only[orC];by_cases h1:o.l=0
   ·have ht:byO f o=5:=by unfold byO;rw[if_pos h1]
    rw[ht];unfold m30
    repeat' with_reducible (first|refine ZR.h ?_|refine zI ?_|(refine zK hE ?_;intro K hK;simp[h1];(repeat' (first|refine hK _ _ ?_|apply And.intro|(intro hc;try subst hc)))<;>(try clear hK K))|(refine zJ (fun hc=>?_) (fun hc=>?_)<;>simp at hc<;>(try subst hc)))
    all_goals first|(simp;done)|(simp at *;omega)|((try simp);refine Imp.aut ?_ ?_<;>simp[NLe])
   ·by_cases h2:f≤o.f
    ·have ht:byO f o=8:=by unfold byO;rw[if_neg h1,if_pos h2]
     rw[ht];unfold m30
     repeat' with_reducible (first|refine ZR.h ?_|refine zI ?_|(refine zK hE ?_;intro K hK;simp[h1,h2];(repeat' (first|refine hK _ _ ?_|apply And.intro|(intro hc;try subst hc)))<;>(try clear hK K))|(refine zJ (fun hc=>?_) (fun hc=>?_)<;>simp at hc<;>(try subst hc)))
     all_goals first|(simp;done)|(simp at *;omega)|((try simp);refine Imp.aut ?_ ?_<;>simp[NLe])
    ·have ht:byO f o=0:=by unfold byO;rw[if_neg h1,if_neg h2]
     rw[ht];unfold m30
     repeat' with_reducible (first|refine ZR.h ?_|refine zI ?_|(refine zK hE ?_;intro K hK;simp[h1,h2];(repeat' (first|refine hK _ _ ?_|apply And.intro|(intro hc;try subst hc)))<;>(try clear hK K))|(refine zJ (fun hc=>?_) (fun hc=>?_)<;>simp at hc<;>(try subst hc)))
     all_goals first|(simp;done)|(simp at *;omega)|((try simp);refine Imp.aut ?_ ?_<;>simp[NLe])
  ·cases h
 ·cases h
def r5A (r:R5):AV:=.agg [.int .i64 r.b,.int .i64 r.s,.int .i64 r.p,.int .i64 r.g,.int .i64 r.n]
def wr5 (r:R5):R5:=⟨IntKind.wrap .i64 r.b,IntKind.wrap .i64 r.s,IntKind.wrap .i64 r.p,IntKind.wrap .i64 r.g,IntKind.wrap .i64 r.n⟩
def d38:List AV→List NObj→Option AV
 | [.agg [.int .i64 xb,.int .i64 xs,.int .i64 xp,.int .i64 xg,.int .i64 xn],.agg [.int .i64 yb,.int .i64 ys,.int .i64 yp,.int .i64 yg,.int .i64 yn]],[]=>some (r5A (wr5 (add5 ⟨xb,xs,xp,xg,xn⟩ ⟨yb,ys,yp,yg,yn⟩)))
 | _,_=>none
theorem ok38:ROk d38:=by
 intro xs os r h;unfold d38 at h
 (repeat' (split at h))<;>first|(cases h;done)|(injection h with h;subst h;simp[r5A])
theorem s38:Sound Try.prog 38 (rdS d38 ok38):=by
 refine Zn C38.a C38.b C38.c C38.d ok38 fun xs os r h vs ρ0 hvs=>⟨xs,?_,fun _ h=>h,fun w0 S hS=>?_⟩
 ·unfold d38 at h
  (repeat' (split at h))<;>first|(cases h;done)|exact Nat.le_of_ble_eq_true rfl
 unfold d38 at h;split at h
 ·rename_i xb xs xp xg xn yb ys yp yg yn
  injection h with h;subst h;have hE:Zd Try.prog (EL []):=Zf (by simp);simp only[r5A,wr5,add5];unfold m38
  repeat' with_reducible (first|refine ZR.h ?_|refine zI ?_|(refine zK hE ?_;intro K hK;simp;(repeat' (first|refine hK _ _ ?_|apply And.intro|(intro hc;try subst hc)))<;>(try clear hK K))|(refine zJ (fun hc=>?_) (fun hc=>?_)<;>simp at hc<;>(try subst hc)))
  all_goals first|(simp;done)|(simp at *;omega)|((try simp);refine Imp.aut ?_ ?_<;>simp[NLe])
 ·cases h
def d49:List AV→List NObj→Option AV
 | [.agg oc,.ptr (.top 0) 0 0,.ptr (.top 1) 0 0],[.view 0 1 [[.int .i64 c]],.view 0 1 [[.int .i64 g]]]=>(match vz oc with
  | some o=>some (.bool (isO c g o))
  | none=>none)
 | _,_=>none
theorem ok49:ROk d49:=by
 intro xs os r h;unfold d49 at h
 (repeat' (split at h))<;>first|(cases h;done)|(injection h with h;subst h;simp)
theorem s49:Sound Try.prog 49 (rdS d49 ok49):=by
 refine Zn C49.a C49.b C49.c C49.d ok49 fun xs os r h vs ρ0 hvs=>⟨xs,?_,fun _ h=>h,fun w0 S hS=>?_⟩
 ·unfold d49 at h
  (repeat' (split at h))<;>first|(cases h;done)|exact Nat.le_of_ble_eq_true rfl
 unfold d49 at h;split at h
 ·rename_i oc c g
  split at h
  ·rename_i o ho
   injection h with h;subst h;obtain rfl:=VK ho;clear ho;have hE:Zd Try.prog (EL []):=Zf (by simp);simp only[orC,isO];by_cases h1:o.c=c
   ·by_cases h2:o.g=g
    ·
     unfold m49
     repeat' with_reducible (first|refine ZR.h ?_|refine zI ?_|(refine zK hE ?_;intro K hK;simp[h1,h2];(repeat' (first|refine hK _ _ ?_|apply And.intro|(intro hc;try subst hc)))<;>(try clear hK K))|(refine zJ (fun hc=>?_) (fun hc=>?_)<;>simp at hc<;>(try subst hc)))
     all_goals first|(simp;done)|(simp at *;omega)|((try simp[h1,h2]);refine Imp.aut ?_ ?_<;>simp[NLe,h1,h2])
    ·
     unfold m49
     repeat' with_reducible (first|refine ZR.h ?_|refine zI ?_|(refine zK hE ?_;intro K hK;simp[h1,h2];(repeat' (first|refine hK _ _ ?_|apply And.intro|(intro hc;try subst hc)))<;>(try clear hK K))|(refine zJ (fun hc=>?_) (fun hc=>?_)<;>simp at hc<;>(try subst hc)))
     all_goals first|(simp;done)|(simp at *;omega)|((try simp[h1,h2]);refine Imp.aut ?_ ?_<;>simp[NLe,h1,h2])
   ·
    unfold m49
    repeat' with_reducible (first|refine ZR.h ?_|refine zI ?_|(refine zK hE ?_;intro K hK;simp[h1];(repeat' (first|refine hK _ _ ?_|apply And.intro|(intro hc;try subst hc)))<;>(try clear hK K))|(refine zJ (fun hc=>?_) (fun hc=>?_)<;>simp at hc<;>(try subst hc)))
    all_goals first|(simp;done)|(simp at *;omega)|((try simp[h1]);refine Imp.aut ?_ ?_<;>simp[NLe,h1])
  ·cases h
 ·cases h
def zF (x:Option Nat):Int:=match x with
 | some i=>(i:Int)
 | none=>-1
theorem ZcK {c g:Int} {os:List OrZ} {i:Nat} {x:OrZ} (h:∀ (j:Nat) (y:OrZ),j<i→os[j]?=some y→isO c g y=false) (hx:os[i]?=some x) (hi:isO c g x=true):ZC c g os=some i:=by
 unfold ZC;rw[List.findIdx?_eq_some_iff_getElem];obtain ⟨h1,h2⟩:=List.getElem?_eq_some_iff.1 hx;refine ⟨h1,by rw[h2];exact hi,fun j hj=>?_⟩;rw[h j _ hj (List.getElem?_eq_getElem (by omega))];simp
theorem Zaz {c g:Int} {os:List OrZ} (h:∀ (j:Nat) (y:OrZ),j<os.length→os[j]?=some y→isO c g y=false):ZC c g os=none:=by
 unfold ZC;rw[List.findIdx?_eq_none_iff];intro y hy;obtain ⟨j,hj⟩:=List.getElem?_of_mem hy;exact h j y (List.getElem?_eq_some_iff.1 hj).1 hj
def d48:List AV→List NObj→Option AV
 | [.sl (.top 0) 0 n,.fn 49 [.ptr (.top 1) 0 0,.ptr (.top 2) 0 0]],[.view 0 13 els,.view 0 1 [[.int .i64 c]],.view 0 1 [[.int .i64 g]]]=>(match Xm vz els with
  | some os=>if n=els.length∧els.length≤100000 then some (.int .i64 (zF (ZC c g os))) else none
  | none=>none)
 | _,_=>none
theorem ok48:ROk d48:=by
 intro xs os r h;unfold d48 at h
 (repeat' (split at h))<;>first|(cases h;done)|(injection h with h;subst h;simp)
def I48 (c g:Int) (os:List OrZ) (i:Nat):St:=⟨[(0,.sl (.top 0) 0 os.length),(1,.fn 49 [.ptr (.top 1) 0 0,.ptr (.top 2) 0 0]),(7,.int .i64 os.length),(8,.int .i64 i)],[(0,.view 0 13 (YZ os)),(1,.view 0 1 [[.int .i64 c]]),(2,.view 0 1 [[.int .i64 g]])],3⟩
theorem s48:Sound Try.prog 48 (rdS d48 ok48):=by
 refine Zn C48.a C48.b C48.c C48.d ok48 fun xs os r h vs ρ0 hvs=>⟨xs,?_,fun _ h=>h,fun w0 S hS=>?_⟩
 ·unfold d48 at h
  (repeat' (split at h))<;>first|(cases h;done)|exact Nat.le_of_ble_eq_true rfl
 unfold d48 at h;split at h
 ·rename_i n els c g
  split at h
  ·rename_i os hos
   split at h
   ·rename_i hcond
    injection h with h;subst h;obtain ⟨rfl,hn⟩:=hcond;obtain rfl:=ZI (g:=orC) (fun _ _=>VK) hos;clear hos;change List.length (YZ os)≤100000 at hn;rw[Yk]at hn;have hE:Zd Try.prog (EL [(49,rdS d49 ok49)]):=Zf (by simp only[List.mem_cons,List.not_mem_nil,or_false,forall_eq_or_imp,forall_eq];exact s49);have hT:=ZP os;have hC:=ZO os;have hD:=ZaG os;have hl:=Yk os;change Wm _ _ _ _ _ _ ⟨U6 0 [.sl (.top 0) 0 (YZ os).length,.fn 49 [.ptr (.top 1) 0 0,.ptr (.top 2) 0 0]],Zs 0 [.view 0 13 (YZ os),.view 0 1 [[.int .i64 c]],.view 0 1 [[.int .i64 g]]],_⟩ _;unfold m48
    repeat' with_reducible (first|refine ZR.h ?_|refine zI ?_|(refine zK hE ?_;intro K hK;simp[hT,hC,hD,hl];(repeat' (first|refine hK _ _ ?_|apply And.intro|(intro hc;try subst hc)))<;>(try clear hK K))|(refine zJ (fun hc=>?_) (fun hc=>?_)<;>simp at hc<;>(try subst hc)))
    all_goals (refine Z4 (fun i=>I48 c g os i) (fun i=>i≤os.length∧∀ (j:Nat) (y:OrZ),j<i→os[j]?=some y→isO c g y=false) (fun i=>os.length - i) 0 ⟨Nat.zero_le _,fun j y hj=>absurd hj (Nat.not_lt_zero j)⟩ ?_ ?_)
    ·simp only[I48]
     rw[hS]
     (refine Imp.aut ?_ ?_<;>simp[NLe,Zg,hT,hC,hl])
    ·rintro i ⟨hi,hno⟩
     (try simp only at hi hno)
     simp only[I48];by_cases hil:i<os.length
     ·obtain ⟨x,hx⟩:∃ x,os[i]?=some x:=⟨_,List.getElem?_eq_getElem hil⟩
      have hg:=VY hx;have hge:∀ hk,(YZ os)[i]'hk=orC x:=fun hk=>by rw[List.getElem?_eq_getElem hk]at hg;exact Option.some.inj hg
      have ww:IntKind.wrap .i64 ((i:Int)+1)=(i:Int)+1:=Zh (by omega) (by omega);have h49:d49 [.agg (orC x),.ptr (.top 0) 0 0,.ptr (.top 1) 0 0] [.view 0 1 [[.int .i64 c]],.view 0 1 [[.int .i64 g]]]=some (.bool (isO c g x)):=(by simp only[d49,XM]);simp only[orC]at h49 hg hge;by_cases hb:isO c g x=true
      ·rw[hb]at h49
       rw[ZcK hno hx hb]
       repeat' with_reducible (first|refine ZR.h ?_|refine zI ?_|(refine zK hE ?_;intro K hK;simp[hT,hC,hD,hl,hil,hg,hge,h49];(repeat' (first|refine hK _ _ ?_|apply And.intro|(intro hc;try subst hc)))<;>(try clear hK K))|(refine zJ (fun hc=>?_) (fun hc=>?_)<;>simp at hc<;>(try subst hc)))
       all_goals (try simp[zF])
       all_goals (refine Imp.aut ?_ ?_<;>simp[NLe,Zg,hT,hC,hl])
      ·have hb:isO c g x=false:=by simpa using hb
       rw[hb]at h49
       repeat' with_reducible (first|refine ZR.h ?_|refine zI ?_|(refine zK hE ?_;intro K hK;simp[hT,hC,hD,hl,hil,hg,hge,h49,ww];(repeat' (first|refine hK _ _ ?_|apply And.intro|(intro hc;try subst hc)))<;>(try clear hK K))|(refine zJ (fun hc=>?_) (fun hc=>?_)<;>simp at hc<;>(try subst hc)))
       all_goals refine ⟨i+1,⟨hil,fun j y hj hy=>?_⟩,Nat.sub_lt_sub_left hil (Nat.lt_succ_self i),?_⟩
       ·by_cases e:j=i
        ·subst e
         rw[hx]at hy;injection hy with hy;rw[← hy];exact hb
        ·exact hno j y (by omega) hy
       ·rw[hS]
        simp only[I48]
        (refine Imp.aut ?_ ?_<;>simp[NLe,Zg,hT,hC,hl])
     ·have hie:i=os.length:=by omega
      subst hie;rw[Zaz hno]
      repeat' with_reducible (first|refine ZR.h ?_|refine zI ?_|(refine zK hE ?_;intro K hK;simp[hT,hC,hD,hl];(repeat' (first|refine hK _ _ ?_|apply And.intro|(intro hc;try subst hc)))<;>(try clear hK K))|(refine zJ (fun hc=>?_) (fun hc=>?_)<;>simp at hc<;>(try subst hc)))
      all_goals (try simp[zF])
      all_goals (refine Imp.aut ?_ ?_<;>simp[NLe,Zg,hT,hC,hl])
   ·cases h
  ·cases h
 ·cases h
end Go.W
