/- A part of the proofs about the pair's laws (PsV0, PsV1, PsV2). -/
import Derived.Test.YtidbbnkpglggdaaGreatPsQ
import Derived.Test.YtidbbnkpglggdaaGreatPqB
import Derived.Test.YtidbbnkpglggdaaGreatWkC
namespace Go.W
open Go.Proofs
set_option linter.unusedSimpArgs false
set_option linter.unusedVariables false
set_option maxHeartbeats 8000000
attribute [local irreducible] Wm
attribute [local simp] Y5 lkp VW prs Uv prT ddL idL YN Um Ren Vt NObj.none Z4
def TJ:List AV→Bool
 | [.int .i64 kd,.bool fl,.int .i64 sg,.int .i64 sl,.int .i64 sf,.int .i64 nm,.int .i64 sd,.int .i64 pr,.int .i64 le,.int .i64 un]=>decide (-9223372036854775808≤kd∧kd≤9223372036854775807∧-9223372036854775808≤sg∧sg≤9223372036854775807∧-9223372036854775808≤sl∧sl≤9223372036854775807∧-9223372036854775808≤sf∧sf≤9223372036854775807∧-9223372036854775808≤nm∧nm≤9223372036854775807∧-9223372036854775808≤sd∧sd≤9223372036854775807∧-9223372036854775808≤pr∧pr≤9223372036854775807∧-9223372036854775808≤le∧le≤9223372036854775807∧-9223372036854775808≤un∧un≤9223372036854775807)
 | _=>false
theorem VN {c:List AV} (h:TJ c=true):∃ (kd:Int) (fl:Bool) (sg sl sf nm sd pr le un:Int),c=[.int .i64 kd,.bool fl,.int .i64 sg,.int .i64 sl,.int .i64 sf,.int .i64 nm,.int .i64 sd,.int .i64 pr,.int .i64 le,.int .i64 un]∧-9223372036854775808≤kd∧kd≤9223372036854775807∧-9223372036854775808≤sg∧sg≤9223372036854775807∧-9223372036854775808≤sl∧sl≤9223372036854775807∧-9223372036854775808≤sf∧sf≤9223372036854775807∧-9223372036854775808≤nm∧nm≤9223372036854775807∧-9223372036854775808≤sd∧sd≤9223372036854775807∧-9223372036854775808≤pr∧pr≤9223372036854775807∧-9223372036854775808≤le∧le≤9223372036854775807∧-9223372036854775808≤un∧un≤9223372036854775807:=by
 unfold TJ at h;split at h
 ·exact ⟨_,_,_,_,_,_,_,_,_,_,rfl,of_decide_eq_true h⟩
 ·cases h
theorem ZaH:∀ {els:List (List AV)},els.all TJ=true→ZG els=els
 | [],_=>rfl
 | c :: r,h=>by
  simp only[List.all_cons,Bool.and_eq_true]at h;obtain ⟨kd,fl,sg,sl,sf,nm,sd,pr,le,un,rfl,_⟩:=VN h.1;simp[ZG,t0L,AV.t0,ZaH h.2]
theorem Zan:∀ {els:List (List AV)},els.all TJ=true→Yp els=true
 | [],_=>rfl
 | c :: r,h=>by
  simp only[List.all_cons,Bool.and_eq_true]at h;obtain ⟨kd,fl,sg,sl,sf,nm,sd,pr,le,un,rfl,_⟩:=VN h.1;simp[Yp,clL,AV.cl,Zan h.2]
def okO (a b c f g:Int) (k:Nat):List AV→Option (Int×Int)
 | [.int .i64 kd,.bool fl,.int .i64 sg,.int .i64 sl,.int .i64 sf,.int .i64 nm,.int .i64 sd,.int .i64 pr,.int .i64 le,.int .i64 un]=>(match ZN ⟨kd,fl,sg,sl,sf⟩,Ux ⟨nm,sd,pr,le,un⟩ with
  | some v,some u=>if (k:Int)<a*b∧1≤sg∧sg≤g∧1≤sl∧sf<f∧(Zt kd=true∨5≤kd)∧fl=false∧YT c ⟨nm,sd,pr,le,un⟩ (if sl<le then le else sl) 0=0 then some (v,u) else none
  | _,_=>none)
 | _=>none
def ordS (o:List AV):List AV:=o.take 5
def ordT (o:List AV):List AV:=o.drop 5
def ZK (a b c d e f g:Int) (els:List (List AV)):Nat→Option (List (List AV)×List (List AV)×List (List AV))
 | 0=>some ((W0 a b c d e f g).ws,zS (a*b).toNat,zT (a*b).toNat)
 | k+1=>match ZK a b c d e f g els k with
  | none=>none
  | some (ws,S,T)=>match okO a b c f g k (els.getD k []) with
   | none=>none
   | some (v,u)=>some ((ws.set (2*k) [.int .u64 v]).set (2*k+1) [.int .u64 u],S.set k (ordS (els.getD k [])),T.set k (ordT (els.getD k [])))
theorem xP {a b c d e f g:Int} {els:List (List AV)} {k:Nat} (h:ZK a b c d e f g els k=none):∀ j,ZK a b c d e f g els (k+j)=none
 | 0=>h
 | j+1=>by
  show ZK a b c d e f g els ((k+j)+1)=none;simp only[ZK,xP h j]
theorem zU {c:List AV} (hc:t0L c=c):∀ {L:List (List AV)} (k:Nat),ZG L=L→ZG (L.set k c)=L.set k c
 | [],_,_=>rfl
 | x :: r,0,h=>by
  simp only[ZG,List.cons.injEq]at h;simp only[List.set_cons_zero,ZG,hc,h.2]
 | x :: r,k+1,h=>by
  simp only[ZG,List.cons.injEq]at h;simp only[List.set_cons_succ,ZG,h.1,zU hc k h.2]
theorem zQ {c:List AV} (hc:clL c=true):∀ {L:List (List AV)} (k:Nat),Yp L=true→Yp (L.set k c)=true
 | [],_,_=>rfl
 | x :: r,0,h=>by
  simp only[Yp,Bool.and_eq_true]at h;simp only[List.set_cons_zero,Yp,hc,h.2,Bool.and_self]
 | x :: r,k+1,h=>by
  simp only[Yp,Bool.and_eq_true]at h;simp only[List.set_cons_succ,Yp,h.1,zQ hc k h.2,Bool.and_self]
def okL (n:Nat) (L:List (List AV)):Prop:=L.length=n∧ZG L=L∧Yp L=true∧∀ c,c∈L→c.length=5
theorem ZaU {L:List (List AV)} (h:∀ c,c∈L→c.length=5) {x:List AV} (hx:x.length=5) (k:Nat):∀ c,c∈L.set k x→c.length=5:=fun c hc=>by
 rcases List.mem_or_eq_of_mem_set hc with h3|h3
 ·exact h c h3
 ·rw[h3];exact hx
theorem Zau {x:List AV} (hx:x.length=5) (n:Nat):∀ c,c∈List.replicate n x→c.length=5:=fun c hc=>by rw[List.eq_of_mem_replicate hc];exact hx
theorem vb {a b c f g:Int} {k:Nat} {o:List AV} {v u:Int} (ho:TJ o=true) (h:okO a b c f g k o=some (v,u)):(k:Int)<a*b∧(0≤v∧v<18446744073709551616)∧(0≤u∧u<18446744073709551616):=by
 obtain ⟨kd,fl,sg,sl,sf,nm,sd,pr,le,un,rfl,_⟩:=VN ho;simp only[okO]at h;split at h
 ·rename_i v' u' h1 h2
  by_cases hc:(k:Int)<a*b∧1≤sg∧sg≤g∧1≤sl∧sf<f∧(Zt kd=true∨5≤kd)∧fl=false∧YT c ⟨nm,sd,pr,le,un⟩ (if sl<le then le else sl) 0=0
  ·rw[if_pos hc]at h
   simp only[Option.some.injEq,Prod.mk.injEq]at h;obtain ⟨rfl,rfl⟩:=h;exact ⟨hc.1,UQ h1,Zaw h2⟩
  ·rw[if_neg hc]at h;cases h
 ·cases h
theorem XO {a b c d e f g:Int} {els:List (List AV)} (hcf:XX a b c d e f g=true) (he:els.all TJ=true):∀ (k:Nat) (ws S T:List (List AV)),k≤els.length→ZK a b c d e f g els k=some (ws,S,T)→(k:Int)≤a*b∧ws.all isW=true∧ws.length=(a*b*2+a*b*g*(f+1)).toNat∧okL (a*b).toNat S∧okL (a*b).toNat T
 | 0,ws,S,T,_,h=>by
  simp only[ZK,Option.some.injEq,Prod.mk.injEq]at h;obtain ⟨rfl,rfl,rfl⟩:=h;have hall:=ZJ hcf;exact ⟨by simp only[Int.natCast_zero];omega,ZbO _,List.length_replicate ..,⟨List.length_replicate ..,UY rfl _,UV rfl _,Zau rfl _⟩,⟨List.length_replicate ..,UY rfl _,UV rfl _,Zau rfl _⟩⟩
 | k+1,ws,S,T,hk,h=>by
  simp only[ZK]at h;split at h
  ·cases h
  ·rename_i ws0 S0 T0 h0
   split at h
   ·cases h
   ·rename_i v u hO
    simp only[Option.some.injEq,Prod.mk.injEq]at h;obtain ⟨rfl,rfl,rfl⟩:=h;have hkl:k<els.length:=(by omega);have hrow:TJ (els.getD k [])=true:=by
     rw[List.getD_eq_getElem?_getD,List.getElem?_eq_getElem hkl];exact List.all_eq_true.1 he _ (List.getElem_mem hkl)
    obtain ⟨hkn,hv,hu⟩:=vb hrow hO;obtain ⟨i1,i2,i3,i4,i5⟩:=XO hcf he k ws0 S0 T0 (by omega) h0;obtain ⟨kd,fl,sg,sl,sf,nm,sd,pr,le,un,hoe,_⟩:=VN hrow;rw[hoe];exact ⟨by omega,Tl (Tl i2 hv.1 hv.2 _) hu.1 hu.2 _,by simp only[List.length_set];exact i3,
     ⟨by simp only[List.length_set];exact i4.1,zU rfl k i4.2.1,zQ rfl k i4.2.2.1,ZaU i4.2.2.2 rfl k⟩,⟨by simp only[List.length_set];exact i5.1,zU rfl k i5.2.1,zQ rfl k i5.2.2.1,ZaU i5.2.2.2 rfl k⟩⟩
def YV (a b c d e f g:Int) (els:List (List AV)):AV:=match ZK a b c d e f g els els.length with
 | some (ws,S,T)=>.tup [.op 0 (wzC ⟨a,b,c,d,e,f,g,ws,2*els.length,0,[]⟩),.op 0 (qC a b c d e f g S T),.bool true]
 | none=>.tup [.raw (.pointer none),.raw (.pointer none),.bool false]
def d5:List AV→Option Ans
 | [.agg [.int .i64 a,.int .i64 b,.int .i64 c,.int .i64 d,.int .i64 e,.int .i64 f,.int .i64 g],.os _ 10 els]=>if els.all TJ=true then some ⟨if XX a b c d e f g=true then YV a b c d e f g els else .tup [.raw (.pointer none),.raw (.pointer none),.bool false],[.free]⟩ else none
 | _=>none
theorem ok5:NOk [(10,false)] d5:=by
 intro xs aa h;unfold d5 at h;split at h
 ·split at h
  ·rename_i a b c d e f g u els hc
   have t1:=ZaH hc;have t2:=Zan hc;injection h with h;subst h;split
   ·rename_i hcf
    unfold YV;split
    ·rename_i ws S T hb
     obtain ⟨i1,i2,i3,⟨i4,i5,i6,_⟩,⟨i7,i8,i9,_⟩⟩:=XO hcf hc _ _ _ _ (Nat.le_refl _) hb;have hT:=ZZ i2;have hC:=Z0 i2;refine ⟨Zq ?_,?_⟩<;>simp[wzC,qC,hT,hC,i5,i6,i8,i9,t1,t2]
    ·refine ⟨Zq ?_,?_⟩<;>simp[t1,t2]
   ·refine ⟨Zq ?_,?_⟩<;>simp[t1,t2]
  ·cases h
 ·cases h
def I9 (a b c d e f g:Int) (els:List (List AV)) (k:Nat) (ws S T:List (List AV)):St:=⟨[(2,.ptr (.top 1) 0 0),(7,.ptr (.top 2) 0 0),(9,.ptr (.top 3) 0 0),(11,.ptr (.top 4) 0 0),(43,.sl (.top 0) 0 els.length),(44,.int .i64 els.length),(45,.int .i64 k)],[(0,.view 0 10 els),(1,.cells 0 [.int .i64 a,.int .i64 b,.int .i64 c,.int .i64 d,.int .i64 e,.int .i64 f,.int .i64 g]),(2,.cells 0 [.int .i64 a,.int .i64 b,.int .i64 c,.int .i64 d,.int .i64 e,.int .i64 f,.int .i64 g]),(3,.cells 0 [.int .i64 a,.int .i64 b,.int .i64 c,.int .i64 d,.int .i64 e,.int .i64 f,.int .i64 g,.op 0 [.os 0 1 ws,.int .i64 (2*k),.bot,.bot,.bot,.bot,.bot],.op 0 [.int .u64 0],.os 0 14 []]),(4,.cells 0 [.int .i64 a,.int .i64 b,.int .i64 c,.int .i64 d,.int .i64 e,.int .i64 f,.int .i64 g,.os 0 5 S,.os 0 5 T,.os 0 1 (jzL (a*b).toNat (g*(f+1)).toNat),.int .i64 0,.os 0 14 [],.int .i64 0])],5⟩
def B9:MCode:=(.seq (.reg q5_9) (.seq (.cond (.t 46) .skip (.exit 0)) (.seq (.block 1 (.seq (.reg q5_10) (.seq (.reg q5_11) (.seq (.reg q5_12) (.seq (.seq (.reg q5_13) (.cond (.t 136) (.seq (.reg q5_14) .ret) .skip)) (.seq (.draw q5_15 p5_15) (.seq (.draw q5_16 p5_16) (.draw q5_17 p5_17)))))))) (.reg q5_18))))
def P9 (xs:List AV) (a:Ans):Exit→St→Prop:=Zhk [.t 4,.t 5,.t 6] fun v s=>Imp (oA [(10,false)] xs).length ⟨[(0,v)],s.hl,s.nb⟩ ⟨[(0,lR [(10,false)] xs a)],ZQ 0 (uR [(10,false)] xs a++nR [(10,false)] xs a),(oA [(10,false)] xs).length+(nR [(10,false)] xs a).length⟩
def L9 (w0:World) (S:Sc) (a b c d e f g:Int) (t:Nat) (els:List (List AV)) (k:Nat) (ws SS T:List (List AV)):Prop :=
 Wm Tryz.prog w0 S Tryz.f5.ntmps [] B9 (I9 a b c d e f g els k ws SS T) (xE S.m (fun (y:Nat×List (List AV)×List (List AV)×List (List AV))=>I9 a b c d e f g els y.1 y.2.1 y.2.2.1 y.2.2.2) (fun y=>y.1≤els.length∧ZK a b c d e f g els y.1=some (y.2.1,y.2.2.1,y.2.2.2)) (fun y=>els.length - y.1) (k,ws,SS,T) (Ye 0 (zi Tryz.prog w0 S Tryz.f5.ntmps [] (.seq (.reg q5_19) .ret) (P9 [.agg [.int .i64 a,.int .i64 b,.int .i64 c,.int .i64 d,.int .i64 e,.int .i64 f,.int .i64 g],.os t 10 els] ⟨YV a b c d e f g els,[.free]⟩))))
def Yy:List MO:=[Ma 62 (.mv (.t 12)),Ma 63 (.mv (.t 11)),Ma 64 (.nilck (.t 63)),Ma 65 (.faddr 7 (.t 64)),Ma 66 (.load false 1 (.t 65)),Ma 67 (.len (.t 66)),Ma 68 (.bin .geq (.t 62) (.t 67)),Ma 69 (.mv (.t 68)),Mg 70 (.mv (.t 15)) 69 false,Mg 71 (.bin .neq (.t 70) (.c (.int .i64 0))) 69 false,Ma 72 (.pick (.t 69) (.c (.bool true)) (.t 71)),Ma 73 (.mv (.t 72)),Mg 74 (.mv (.t 17)) 73 false]
@[simp] theorem l5_13s0:Yy.length=13:=rfl
def Yu:List MO:=[Mg 75 (.bin .neq (.t 74) (.c (.int .i64 0))) 73 false,Ma 76 (.pick (.t 73) (.c (.bool true)) (.t 75)),Ma 77 (.mv (.t 76)),Mg 78 (.faddr 0 (.t 13)) 77 false,Mg 79 (.faddr 2 (.t 78)) 77 false,Mg 80 (.load false 1 (.t 79)) 77 false,Mg 81 (.bin .lss (.t 80) (.c (.int .i64 1))) 77 false,Ma 82 (.pick (.t 77) (.c (.bool true)) (.t 81)),Ma 83 (.mv (.t 82)),Mg 84 (.faddr 0 (.t 13)) 83 false,Mg 85 (.faddr 2 (.t 84)) 83 false,Mg 86 (.load false 1 (.t 85)) 83 false,Mg 87 (.faddr 6 (.t 2)) 83 false]
@[simp] theorem l5_13s1:Yu.length=13:=rfl
def YB:List MO:=[Mg 88 (.load false 1 (.t 87)) 83 false,Mg 89 (.bin .gtr (.t 86) (.t 88)) 83 false,Ma 90 (.pick (.t 83) (.c (.bool true)) (.t 89)),Ma 91 (.mv (.t 90)),Mg 92 (.faddr 0 (.t 13)) 91 false,Mg 93 (.faddr 3 (.t 92)) 91 false,Mg 94 (.load false 1 (.t 93)) 91 false,Mg 95 (.bin .lss (.t 94) (.c (.int .i64 1))) 91 false,Ma 96 (.pick (.t 91) (.c (.bool true)) (.t 95)),Ma 97 (.mv (.t 96)),Mg 98 (.faddr 0 (.t 13)) 97 false,Mg 99 (.faddr 4 (.t 98)) 97 false,Mg 100 (.load false 1 (.t 99)) 97 false]
@[simp] theorem l5_13s2:YB.length=13:=rfl
def Yx:List MO:=[Mg 101 (.faddr 5 (.t 2)) 97 false,Mg 102 (.load false 1 (.t 101)) 97 false,Mg 103 (.bin .geq (.t 100) (.t 102)) 97 false,Ma 104 (.pick (.t 97) (.c (.bool true)) (.t 103)),Ma 105 (.mv (.t 104)),Mg 106 (.faddr 0 (.t 13)) 105 false,Mg 107 (.faddr 0 (.t 106)) 105 false,Mg 108 (.load false 1 (.t 107)) 105 false,Mg 109 (.call (.c (.fn 36 [])) [(.t 108)]) 105 false,Mg 110 (.un .not (.t 109)) 105 false,Mg 111 (.mv (.t 110)) 105 false,Mg 112 (.faddr 0 (.t 13)) 111 true,Mg 113 (.faddr 0 (.t 112)) 111 true]
@[simp] theorem l5_13s3:Yx.length=13:=rfl
def Yv:List MO:=[Mg 114 (.load false 1 (.t 113)) 111 true,Mg 115 (.bin .lss (.t 114) (.c (.int .i64 5))) 111 true,Mg 116 (.pick (.t 111) (.t 115) (.c (.bool false))) 105 false,Ma 117 (.pick (.t 105) (.c (.bool true)) (.t 116)),Ma 118 (.mv (.t 117)),Mg 119 (.faddr 0 (.t 13)) 118 false,Mg 120 (.faddr 1 (.t 119)) 118 false,Mg 121 (.load false 1 (.t 120)) 118 false,Ma 122 (.pick (.t 118) (.c (.bool true)) (.t 121)),Ma 123 (.mv (.t 122)),Mg 124 (.load true 7 (.t 2)) 123 false,Mg 125 (.faddr 5 (.t 13)) 123 false,Mg 126 (.load true 5 (.t 125)) 123 false]
@[simp] theorem l5_13s4:Yv.length=13:=rfl
def Yz:List MO:=[Mg 127 (.faddr 0 (.t 13)) 123 false,Mg 128 (.faddr 3 (.t 127)) 123 false,Mg 129 (.load false 1 (.t 128)) 123 false,Mg 130 (.faddr 5 (.t 13)) 123 false,Mg 131 (.faddr 3 (.t 130)) 123 false,Mg 132 (.load false 1 (.t 131)) 123 false,Mg 133 (.mx [(.t 129),(.t 132)]) 123 false,Mg 134 (.call (.c (.fn 37 [])) [(.t 124),(.t 126),(.t 133),(.c (.int .i64 0))]) 123 false,Mg 135 (.bin .neq (.t 134) (.c (.int .i64 0))) 123 false,Ma 136 (.pick (.t 123) (.c (.bool true)) (.t 135))]
@[simp] theorem l5_13s5:Yz.length=10:=rfl
def x5_13:List (List MO×List Nat):=[(Yy,[2,7,9,11,12,13,14,16,43,44,45,73,74]),(Yu,[2,7,9,11,12,13,14,16,43,44,45,83,86,87]),(YB,[2,7,9,11,12,13,14,16,43,44,45,97,100]),(Yx,[2,7,9,11,12,13,14,16,43,44,45,105,111,113]),(Yv,[2,7,9,11,12,13,14,16,43,44,45,123,124,126]),(Yz,[2,7,9,11,12,13,14,16,43,44,45,136])]
theorem xe5_13:(x5_13.map (·.1)).flatten=q5_13:=rfl
set_option maxRecDepth 8000
theorem b9_1 {w0:World} {S:Sc} {a b c d e f g:Int} {t:Nat} {els:List (List AV)} {k:Nat} {ws SS T:List (List AV)} (hE:Zb Tryz.prog (EL [(30,Zi [] d30 ok30),(31,Zi [] d31 ok31),(32,Zi [] d32 ok32),(33,Zi [] d33 ok33),(34,rdS d34 ok34),(35,rdS d35 ok35),(36,rdS d36 ok36),(37,rdS d37 ok37),(39,rdS d39 ok39),(40,rdS d40 ok40),(38,Zi [(7,true)] d38 ok38)])) (hS:S.m=(oA [(10,false)] [.agg [.int .i64 a,.int .i64 b,.int .i64 c,.int .i64 d,.int .i64 e,.int .i64 f,.int .i64 g],.os t 10 els]).length) (hTe:ZG els=els) (hCe:Yp els=true) (hkI:(k:Int)<(els.length:Int)) {kd:Int} {fl:Bool} {sg sl sf nm sd pr le un mxv chk:Int} (hrow2:els[k]?=some [.int .i64 kd,.bool fl,.int .i64 sg,.int .i64 sl,.int .i64 sf,.int .i64 nm,.int .i64 sd,.int .i64 pr,.int .i64 le,.int .i64 un]) (hSl:(SS.length:Int)=a*b) (hmx:(if sl<le then le else sl)=mxv)
  (h48:d37 [.agg [.int .i64 a,.int .i64 b,.int .i64 c,.int .i64 d,.int .i64 e,.int .i64 f,.int .i64 g],.agg [.int .i64 nm,.int .i64 sd,.int .i64 pr,.int .i64 le,.int .i64 un],.int .i64 mxv,.int .i64 0] []=some (.int .i64 chk)) (h47:d36 [.int .i64 kd] []=some (.bool (Zt kd))) {v u e1 e2:Int} (hl6:d34 [.agg [.int .i64 kd,.bool fl,.int .i64 sg,.int .i64 sl,.int .i64 sf]] []=some (.tup [.int .u64 v,.int .i64 e1])) (hl7:d35 [.agg [.int .i64 nm,.int .i64 sd,.int .i64 pr,.int .i64 le,.int .i64 un]] []=some (.tup [.int .u64 u,.int .i64 e2])) (hnone:ZK a b c d e f g els els.length=none) (r1:a*b≤(k:Int)):L9 w0 S a b c d e f g t els k ws SS T:=by
 unfold L9 B9
 simp only[I9,P9]
 repeat' with_reducible (first
  | refine ZR.h ?_ | refine zI ?_
  | (refine VK (mos:=q5_13) hE x5_13 (by kernel_rfl) xe5_13 ?_;intro K hK;rw[x5_13];rw[Ze];simp[Yy,hkI,hrow2,hl6,hl7,h47,h48,hSl,hmx,r1,d30,d31,d39,d40];rw[Ze];simp[Yu,hkI,hrow2,hl6,hl7,h47,h48,hSl,hmx,r1,d30,d31,d39,d40];rw[Ze];simp[YB,hkI,hrow2,hl6,hl7,h47,h48,hSl,hmx,r1,d30,d31,d39,d40];rw[Ze];simp[Yx,hkI,hrow2,hl6,hl7,h47,h48,hSl,hmx,r1,d30,d31,d39,d40];rw[Ze];simp[Yv,hkI,hrow2,hl6,hl7,h47,h48,hSl,hmx,r1,d30,d31,d39,d40];rw[Ze];simp[Yz,hkI,hrow2,hl6,hl7,h47,h48,hSl,hmx,r1,d30,d31,d39,d40];rw[YO];(repeat' (first | refine hK _ _ ?_ | refine And.intro ?_ ?_ | (intro hc;try subst hc)))<;>(try clear hK K))
  | ((first | refine zK hE ?_ | refine zL hE yM ?_);intro K hK;simp[hkI,hrow2,hl6,hl7,h47,h48,hSl,hmx,r1,d30,d31,d39,d40];(repeat' (first | refine hK _ _ ?_ | refine And.intro ?_ ?_ | (intro hc;try subst hc)))<;>(try clear hK K))
  | (refine zJ (fun hc=>?_) (fun hc=>?_)<;>simp at hc<;>(try subst hc)))
 all_goals first|(simp;done)|((try simp[hnone,YV]);refine Imp.aut ?_ ?_<;>simp[NLe,ZM,hTe,hCe,hnone,YV])
theorem b9_2 {w0:World} {S:Sc} {a b c d e f g:Int} {t:Nat} {els:List (List AV)} {k:Nat} {ws SS T:List (List AV)} (hE:Zb Tryz.prog (EL [(30,Zi [] d30 ok30),(31,Zi [] d31 ok31),(32,Zi [] d32 ok32),(33,Zi [] d33 ok33),(34,rdS d34 ok34),(35,rdS d35 ok35),(36,rdS d36 ok36),(37,rdS d37 ok37),(39,rdS d39 ok39),(40,rdS d40 ok40),(38,Zi [(7,true)] d38 ok38)])) (hS:S.m=(oA [(10,false)] [.agg [.int .i64 a,.int .i64 b,.int .i64 c,.int .i64 d,.int .i64 e,.int .i64 f,.int .i64 g],.os t 10 els]).length) (hTe:ZG els=els) (hCe:Yp els=true) (hkI:(k:Int)<(els.length:Int)) {kd:Int} {fl:Bool} {sg sl sf nm sd pr le un mxv chk:Int} (hrow2:els[k]?=some [.int .i64 kd,.bool fl,.int .i64 sg,.int .i64 sl,.int .i64 sf,.int .i64 nm,.int .i64 sd,.int .i64 pr,.int .i64 le,.int .i64 un]) (hSl:(SS.length:Int)=a*b) (hmx:(if sl<le then le else sl)=mxv)
  (h48:d37 [.agg [.int .i64 a,.int .i64 b,.int .i64 c,.int .i64 d,.int .i64 e,.int .i64 f,.int .i64 g],.agg [.int .i64 nm,.int .i64 sd,.int .i64 pr,.int .i64 le,.int .i64 un],.int .i64 mxv,.int .i64 0] []=some (.int .i64 chk)) (h47:d36 [.int .i64 kd] []=some (.bool (Zt kd))) {v u e1 e2:Int} (hl6:d34 [.agg [.int .i64 kd,.bool fl,.int .i64 sg,.int .i64 sl,.int .i64 sf]] []=some (.tup [.int .u64 v,.int .i64 e1])) (hl7:d35 [.agg [.int .i64 nm,.int .i64 sd,.int .i64 pr,.int .i64 le,.int .i64 un]] []=some (.tup [.int .u64 u,.int .i64 e2])) (hnone:ZK a b c d e f g els els.length=none) (p1:¬ a*b≤(k:Int)) (g1:¬ e1=0):L9 w0 S a b c d e f g t els k ws SS T:=by
 unfold L9 B9
 simp only[I9,P9]
 repeat' with_reducible (first
  | refine ZR.h ?_ | refine zI ?_
  | (refine VK (mos:=q5_13) hE x5_13 (by kernel_rfl) xe5_13 ?_;intro K hK;rw[x5_13];rw[Ze];simp[Yy,hkI,hrow2,hl6,hl7,h47,h48,hSl,hmx,p1,g1,d30,d31,d39,d40];rw[Ze];simp[Yu,hkI,hrow2,hl6,hl7,h47,h48,hSl,hmx,p1,g1,d30,d31,d39,d40];rw[Ze];simp[YB,hkI,hrow2,hl6,hl7,h47,h48,hSl,hmx,p1,g1,d30,d31,d39,d40];rw[Ze];simp[Yx,hkI,hrow2,hl6,hl7,h47,h48,hSl,hmx,p1,g1,d30,d31,d39,d40];rw[Ze];simp[Yv,hkI,hrow2,hl6,hl7,h47,h48,hSl,hmx,p1,g1,d30,d31,d39,d40];rw[Ze];simp[Yz,hkI,hrow2,hl6,hl7,h47,h48,hSl,hmx,p1,g1,d30,d31,d39,d40];rw[YO];(repeat' (first | refine hK _ _ ?_ | refine And.intro ?_ ?_ | (intro hc;try subst hc)))<;>(try clear hK K))
  | ((first | refine zK hE ?_ | refine zL hE yM ?_);intro K hK;simp[hkI,hrow2,hl6,hl7,h47,h48,hSl,hmx,p1,g1,d30,d31,d39,d40];(repeat' (first | refine hK _ _ ?_ | refine And.intro ?_ ?_ | (intro hc;try subst hc)))<;>(try clear hK K))
  | (refine zJ (fun hc=>?_) (fun hc=>?_)<;>simp at hc<;>(try subst hc)))
 all_goals first|(simp;done)|((try simp[hnone,YV]);refine Imp.aut ?_ ?_<;>simp[NLe,ZM,hTe,hCe,hnone,YV])
theorem b9_3 {w0:World} {S:Sc} {a b c d e f g:Int} {t:Nat} {els:List (List AV)} {k:Nat} {ws SS T:List (List AV)} (hE:Zb Tryz.prog (EL [(30,Zi [] d30 ok30),(31,Zi [] d31 ok31),(32,Zi [] d32 ok32),(33,Zi [] d33 ok33),(34,rdS d34 ok34),(35,rdS d35 ok35),(36,rdS d36 ok36),(37,rdS d37 ok37),(39,rdS d39 ok39),(40,rdS d40 ok40),(38,Zi [(7,true)] d38 ok38)])) (hS:S.m=(oA [(10,false)] [.agg [.int .i64 a,.int .i64 b,.int .i64 c,.int .i64 d,.int .i64 e,.int .i64 f,.int .i64 g],.os t 10 els]).length) (hTe:ZG els=els) (hCe:Yp els=true) (hkI:(k:Int)<(els.length:Int)) {kd:Int} {fl:Bool} {sg sl sf nm sd pr le un mxv chk:Int} (hrow2:els[k]?=some [.int .i64 kd,.bool fl,.int .i64 sg,.int .i64 sl,.int .i64 sf,.int .i64 nm,.int .i64 sd,.int .i64 pr,.int .i64 le,.int .i64 un]) (hSl:(SS.length:Int)=a*b) (hmx:(if sl<le then le else sl)=mxv)
  (h48:d37 [.agg [.int .i64 a,.int .i64 b,.int .i64 c,.int .i64 d,.int .i64 e,.int .i64 f,.int .i64 g],.agg [.int .i64 nm,.int .i64 sd,.int .i64 pr,.int .i64 le,.int .i64 un],.int .i64 mxv,.int .i64 0] []=some (.int .i64 chk)) (h47:d36 [.int .i64 kd] []=some (.bool (Zt kd))) {v u e2:Int} (hl6:d34 [.agg [.int .i64 kd,.bool fl,.int .i64 sg,.int .i64 sl,.int .i64 sf]] []=some (.tup [.int .u64 v,.int .i64 0])) (hl7:d35 [.agg [.int .i64 nm,.int .i64 sd,.int .i64 pr,.int .i64 le,.int .i64 un]] []=some (.tup [.int .u64 u,.int .i64 e2])) (hnone:ZK a b c d e f g els els.length=none) (p1:¬ a*b≤(k:Int)) (g2:¬ e2=0):L9 w0 S a b c d e f g t els k ws SS T:=by
 unfold L9 B9
 simp only[I9,P9]
 repeat' with_reducible (first
  | refine ZR.h ?_ | refine zI ?_
  | (refine VK (mos:=q5_13) hE x5_13 (by kernel_rfl) xe5_13 ?_;intro K hK;rw[x5_13];rw[Ze];simp[Yy,hkI,hrow2,hl6,hl7,h47,h48,hSl,hmx,p1,g2,d30,d31,d39,d40];rw[Ze];simp[Yu,hkI,hrow2,hl6,hl7,h47,h48,hSl,hmx,p1,g2,d30,d31,d39,d40];rw[Ze];simp[YB,hkI,hrow2,hl6,hl7,h47,h48,hSl,hmx,p1,g2,d30,d31,d39,d40];rw[Ze];simp[Yx,hkI,hrow2,hl6,hl7,h47,h48,hSl,hmx,p1,g2,d30,d31,d39,d40];rw[Ze];simp[Yv,hkI,hrow2,hl6,hl7,h47,h48,hSl,hmx,p1,g2,d30,d31,d39,d40];rw[Ze];simp[Yz,hkI,hrow2,hl6,hl7,h47,h48,hSl,hmx,p1,g2,d30,d31,d39,d40];rw[YO];(repeat' (first | refine hK _ _ ?_ | refine And.intro ?_ ?_ | (intro hc;try subst hc)))<;>(try clear hK K))
  | ((first | refine zK hE ?_ | refine zL hE yM ?_);intro K hK;simp[hkI,hrow2,hl6,hl7,h47,h48,hSl,hmx,p1,g2,d30,d31,d39,d40];(repeat' (first | refine hK _ _ ?_ | refine And.intro ?_ ?_ | (intro hc;try subst hc)))<;>(try clear hK K))
  | (refine zJ (fun hc=>?_) (fun hc=>?_)<;>simp at hc<;>(try subst hc)))
 all_goals first|(simp;done)|((try simp[hnone,YV]);refine Imp.aut ?_ ?_<;>simp[NLe,ZM,hTe,hCe,hnone,YV])
theorem b9_4 {w0:World} {S:Sc} {a b c d e f g:Int} {t:Nat} {els:List (List AV)} {k:Nat} {ws SS T:List (List AV)} (hE:Zb Tryz.prog (EL [(30,Zi [] d30 ok30),(31,Zi [] d31 ok31),(32,Zi [] d32 ok32),(33,Zi [] d33 ok33),(34,rdS d34 ok34),(35,rdS d35 ok35),(36,rdS d36 ok36),(37,rdS d37 ok37),(39,rdS d39 ok39),(40,rdS d40 ok40),(38,Zi [(7,true)] d38 ok38)])) (hS:S.m=(oA [(10,false)] [.agg [.int .i64 a,.int .i64 b,.int .i64 c,.int .i64 d,.int .i64 e,.int .i64 f,.int .i64 g],.os t 10 els]).length) (hTe:ZG els=els) (hCe:Yp els=true) (hkI:(k:Int)<(els.length:Int)) {kd:Int} {fl:Bool} {sg sl sf nm sd pr le un mxv chk:Int} (hrow2:els[k]?=some [.int .i64 kd,.bool fl,.int .i64 sg,.int .i64 sl,.int .i64 sf,.int .i64 nm,.int .i64 sd,.int .i64 pr,.int .i64 le,.int .i64 un]) (hSl:(SS.length:Int)=a*b) (hmx:(if sl<le then le else sl)=mxv)
  (h48:d37 [.agg [.int .i64 a,.int .i64 b,.int .i64 c,.int .i64 d,.int .i64 e,.int .i64 f,.int .i64 g],.agg [.int .i64 nm,.int .i64 sd,.int .i64 pr,.int .i64 le,.int .i64 un],.int .i64 mxv,.int .i64 0] []=some (.int .i64 chk)) (h47:d36 [.int .i64 kd] []=some (.bool (Zt kd))) {v u:Int} (hl6:d34 [.agg [.int .i64 kd,.bool fl,.int .i64 sg,.int .i64 sl,.int .i64 sf]] []=some (.tup [.int .u64 v,.int .i64 0])) (hl7:d35 [.agg [.int .i64 nm,.int .i64 sd,.int .i64 pr,.int .i64 le,.int .i64 un]] []=some (.tup [.int .u64 u,.int .i64 0])) (hnone:ZK a b c d e f g els els.length=none) (p1:¬ a*b≤(k:Int)) (r2:sg<1):L9 w0 S a b c d e f g t els k ws SS T:=by
 unfold L9 B9
 simp only[I9,P9]
 repeat' with_reducible (first
  | refine ZR.h ?_ | refine zI ?_
  | (refine VK (mos:=q5_13) hE x5_13 (by kernel_rfl) xe5_13 ?_;intro K hK;rw[x5_13];rw[Ze];simp[Yy,hkI,hrow2,hl6,hl7,h47,h48,hSl,hmx,p1,r2,d30,d31,d39,d40];rw[Ze];simp[Yu,hkI,hrow2,hl6,hl7,h47,h48,hSl,hmx,p1,r2,d30,d31,d39,d40];rw[Ze];simp[YB,hkI,hrow2,hl6,hl7,h47,h48,hSl,hmx,p1,r2,d30,d31,d39,d40];rw[Ze];simp[Yx,hkI,hrow2,hl6,hl7,h47,h48,hSl,hmx,p1,r2,d30,d31,d39,d40];rw[Ze];simp[Yv,hkI,hrow2,hl6,hl7,h47,h48,hSl,hmx,p1,r2,d30,d31,d39,d40];rw[Ze];simp[Yz,hkI,hrow2,hl6,hl7,h47,h48,hSl,hmx,p1,r2,d30,d31,d39,d40];rw[YO];(repeat' (first | refine hK _ _ ?_ | refine And.intro ?_ ?_ | (intro hc;try subst hc)))<;>(try clear hK K))
  | ((first | refine zK hE ?_ | refine zL hE yM ?_);intro K hK;simp[hkI,hrow2,hl6,hl7,h47,h48,hSl,hmx,p1,r2,d30,d31,d39,d40];(repeat' (first | refine hK _ _ ?_ | refine And.intro ?_ ?_ | (intro hc;try subst hc)))<;>(try clear hK K))
  | (refine zJ (fun hc=>?_) (fun hc=>?_)<;>simp at hc<;>(try subst hc)))
 all_goals first|(simp;done)|((try simp[hnone,YV]);refine Imp.aut ?_ ?_<;>simp[NLe,ZM,hTe,hCe,hnone,YV])
theorem b9_5 {w0:World} {S:Sc} {a b c d e f g:Int} {t:Nat} {els:List (List AV)} {k:Nat} {ws SS T:List (List AV)} (hE:Zb Tryz.prog (EL [(30,Zi [] d30 ok30),(31,Zi [] d31 ok31),(32,Zi [] d32 ok32),(33,Zi [] d33 ok33),(34,rdS d34 ok34),(35,rdS d35 ok35),(36,rdS d36 ok36),(37,rdS d37 ok37),(39,rdS d39 ok39),(40,rdS d40 ok40),(38,Zi [(7,true)] d38 ok38)])) (hS:S.m=(oA [(10,false)] [.agg [.int .i64 a,.int .i64 b,.int .i64 c,.int .i64 d,.int .i64 e,.int .i64 f,.int .i64 g],.os t 10 els]).length) (hTe:ZG els=els) (hCe:Yp els=true) (hkI:(k:Int)<(els.length:Int)) {kd:Int} {fl:Bool} {sg sl sf nm sd pr le un mxv chk:Int} (hrow2:els[k]?=some [.int .i64 kd,.bool fl,.int .i64 sg,.int .i64 sl,.int .i64 sf,.int .i64 nm,.int .i64 sd,.int .i64 pr,.int .i64 le,.int .i64 un]) (hSl:(SS.length:Int)=a*b) (hmx:(if sl<le then le else sl)=mxv)
  (h48:d37 [.agg [.int .i64 a,.int .i64 b,.int .i64 c,.int .i64 d,.int .i64 e,.int .i64 f,.int .i64 g],.agg [.int .i64 nm,.int .i64 sd,.int .i64 pr,.int .i64 le,.int .i64 un],.int .i64 mxv,.int .i64 0] []=some (.int .i64 chk)) (h47:d36 [.int .i64 kd] []=some (.bool (Zt kd))) {v u:Int} (hl6:d34 [.agg [.int .i64 kd,.bool fl,.int .i64 sg,.int .i64 sl,.int .i64 sf]] []=some (.tup [.int .u64 v,.int .i64 0])) (hl7:d35 [.agg [.int .i64 nm,.int .i64 sd,.int .i64 pr,.int .i64 le,.int .i64 un]] []=some (.tup [.int .u64 u,.int .i64 0])) (hnone:ZK a b c d e f g els els.length=none) (p1:¬ a*b≤(k:Int)) (p2:¬ sg<1) (r3:g<sg):L9 w0 S a b c d e f g t els k ws SS T:=by
 unfold L9 B9
 simp only[I9,P9]
 repeat' with_reducible (first
  | refine ZR.h ?_ | refine zI ?_
  | (refine VK (mos:=q5_13) hE x5_13 (by kernel_rfl) xe5_13 ?_;intro K hK;rw[x5_13];rw[Ze];simp[Yy,hkI,hrow2,hl6,hl7,h47,h48,hSl,hmx,p1,p2,r3,d30,d31,d39,d40];rw[Ze];simp[Yu,hkI,hrow2,hl6,hl7,h47,h48,hSl,hmx,p1,p2,r3,d30,d31,d39,d40];rw[Ze];simp[YB,hkI,hrow2,hl6,hl7,h47,h48,hSl,hmx,p1,p2,r3,d30,d31,d39,d40];rw[Ze];simp[Yx,hkI,hrow2,hl6,hl7,h47,h48,hSl,hmx,p1,p2,r3,d30,d31,d39,d40];rw[Ze];simp[Yv,hkI,hrow2,hl6,hl7,h47,h48,hSl,hmx,p1,p2,r3,d30,d31,d39,d40];rw[Ze];simp[Yz,hkI,hrow2,hl6,hl7,h47,h48,hSl,hmx,p1,p2,r3,d30,d31,d39,d40];rw[YO];(repeat' (first | refine hK _ _ ?_ | refine And.intro ?_ ?_ | (intro hc;try subst hc)))<;>(try clear hK K))
  | ((first | refine zK hE ?_ | refine zL hE yM ?_);intro K hK;simp[hkI,hrow2,hl6,hl7,h47,h48,hSl,hmx,p1,p2,r3,d30,d31,d39,d40];(repeat' (first | refine hK _ _ ?_ | refine And.intro ?_ ?_ | (intro hc;try subst hc)))<;>(try clear hK K))
  | (refine zJ (fun hc=>?_) (fun hc=>?_)<;>simp at hc<;>(try subst hc)))
 all_goals first|(simp;done)|((try simp[hnone,YV]);refine Imp.aut ?_ ?_<;>simp[NLe,ZM,hTe,hCe,hnone,YV])
theorem b9_6 {w0:World} {S:Sc} {a b c d e f g:Int} {t:Nat} {els:List (List AV)} {k:Nat} {ws SS T:List (List AV)} (hE:Zb Tryz.prog (EL [(30,Zi [] d30 ok30),(31,Zi [] d31 ok31),(32,Zi [] d32 ok32),(33,Zi [] d33 ok33),(34,rdS d34 ok34),(35,rdS d35 ok35),(36,rdS d36 ok36),(37,rdS d37 ok37),(39,rdS d39 ok39),(40,rdS d40 ok40),(38,Zi [(7,true)] d38 ok38)])) (hS:S.m=(oA [(10,false)] [.agg [.int .i64 a,.int .i64 b,.int .i64 c,.int .i64 d,.int .i64 e,.int .i64 f,.int .i64 g],.os t 10 els]).length) (hTe:ZG els=els) (hCe:Yp els=true) (hkI:(k:Int)<(els.length:Int)) {kd:Int} {fl:Bool} {sg sl sf nm sd pr le un mxv chk:Int} (hrow2:els[k]?=some [.int .i64 kd,.bool fl,.int .i64 sg,.int .i64 sl,.int .i64 sf,.int .i64 nm,.int .i64 sd,.int .i64 pr,.int .i64 le,.int .i64 un]) (hSl:(SS.length:Int)=a*b) (hmx:(if sl<le then le else sl)=mxv)
  (h48:d37 [.agg [.int .i64 a,.int .i64 b,.int .i64 c,.int .i64 d,.int .i64 e,.int .i64 f,.int .i64 g],.agg [.int .i64 nm,.int .i64 sd,.int .i64 pr,.int .i64 le,.int .i64 un],.int .i64 mxv,.int .i64 0] []=some (.int .i64 chk)) (h47:d36 [.int .i64 kd] []=some (.bool (Zt kd))) {v u:Int} (hl6:d34 [.agg [.int .i64 kd,.bool fl,.int .i64 sg,.int .i64 sl,.int .i64 sf]] []=some (.tup [.int .u64 v,.int .i64 0])) (hl7:d35 [.agg [.int .i64 nm,.int .i64 sd,.int .i64 pr,.int .i64 le,.int .i64 un]] []=some (.tup [.int .u64 u,.int .i64 0])) (hnone:ZK a b c d e f g els els.length=none) (p1:¬ a*b≤(k:Int)) (p2:¬ sg<1) (p3:¬ g<sg) (r4:sl<1):L9 w0 S a b c d e f g t els k ws SS T:=by
 unfold L9 B9
 simp only[I9,P9]
 repeat' with_reducible (first
  | refine ZR.h ?_ | refine zI ?_
  | (refine VK (mos:=q5_13) hE x5_13 (by kernel_rfl) xe5_13 ?_;intro K hK;rw[x5_13];rw[Ze];simp[Yy,hkI,hrow2,hl6,hl7,h47,h48,hSl,hmx,p1,p2,p3,r4,d30,d31,d39,d40];rw[Ze];simp[Yu,hkI,hrow2,hl6,hl7,h47,h48,hSl,hmx,p1,p2,p3,r4,d30,d31,d39,d40];rw[Ze];simp[YB,hkI,hrow2,hl6,hl7,h47,h48,hSl,hmx,p1,p2,p3,r4,d30,d31,d39,d40];rw[Ze];simp[Yx,hkI,hrow2,hl6,hl7,h47,h48,hSl,hmx,p1,p2,p3,r4,d30,d31,d39,d40];rw[Ze];simp[Yv,hkI,hrow2,hl6,hl7,h47,h48,hSl,hmx,p1,p2,p3,r4,d30,d31,d39,d40];rw[Ze];simp[Yz,hkI,hrow2,hl6,hl7,h47,h48,hSl,hmx,p1,p2,p3,r4,d30,d31,d39,d40];rw[YO];(repeat' (first | refine hK _ _ ?_ | refine And.intro ?_ ?_ | (intro hc;try subst hc)))<;>(try clear hK K))
  | ((first | refine zK hE ?_ | refine zL hE yM ?_);intro K hK;simp[hkI,hrow2,hl6,hl7,h47,h48,hSl,hmx,p1,p2,p3,r4,d30,d31,d39,d40];(repeat' (first | refine hK _ _ ?_ | refine And.intro ?_ ?_ | (intro hc;try subst hc)))<;>(try clear hK K))
  | (refine zJ (fun hc=>?_) (fun hc=>?_)<;>simp at hc<;>(try subst hc)))
 all_goals first|(simp;done)|((try simp[hnone,YV]);refine Imp.aut ?_ ?_<;>simp[NLe,ZM,hTe,hCe,hnone,YV])
theorem b9_7 {w0:World} {S:Sc} {a b c d e f g:Int} {t:Nat} {els:List (List AV)} {k:Nat} {ws SS T:List (List AV)} (hE:Zb Tryz.prog (EL [(30,Zi [] d30 ok30),(31,Zi [] d31 ok31),(32,Zi [] d32 ok32),(33,Zi [] d33 ok33),(34,rdS d34 ok34),(35,rdS d35 ok35),(36,rdS d36 ok36),(37,rdS d37 ok37),(39,rdS d39 ok39),(40,rdS d40 ok40),(38,Zi [(7,true)] d38 ok38)])) (hS:S.m=(oA [(10,false)] [.agg [.int .i64 a,.int .i64 b,.int .i64 c,.int .i64 d,.int .i64 e,.int .i64 f,.int .i64 g],.os t 10 els]).length) (hTe:ZG els=els) (hCe:Yp els=true) (hkI:(k:Int)<(els.length:Int)) {kd:Int} {fl:Bool} {sg sl sf nm sd pr le un mxv chk:Int} (hrow2:els[k]?=some [.int .i64 kd,.bool fl,.int .i64 sg,.int .i64 sl,.int .i64 sf,.int .i64 nm,.int .i64 sd,.int .i64 pr,.int .i64 le,.int .i64 un]) (hSl:(SS.length:Int)=a*b) (hmx:(if sl<le then le else sl)=mxv)
  (h48:d37 [.agg [.int .i64 a,.int .i64 b,.int .i64 c,.int .i64 d,.int .i64 e,.int .i64 f,.int .i64 g],.agg [.int .i64 nm,.int .i64 sd,.int .i64 pr,.int .i64 le,.int .i64 un],.int .i64 mxv,.int .i64 0] []=some (.int .i64 chk)) (h47:d36 [.int .i64 kd] []=some (.bool (Zt kd))) {v u:Int} (hl6:d34 [.agg [.int .i64 kd,.bool fl,.int .i64 sg,.int .i64 sl,.int .i64 sf]] []=some (.tup [.int .u64 v,.int .i64 0])) (hl7:d35 [.agg [.int .i64 nm,.int .i64 sd,.int .i64 pr,.int .i64 le,.int .i64 un]] []=some (.tup [.int .u64 u,.int .i64 0])) (hnone:ZK a b c d e f g els els.length=none) (p1:¬ a*b≤(k:Int)) (p2:¬ sg<1) (p3:¬ g<sg) (p4:¬ sl<1) (r5:f≤sf):L9 w0 S a b c d e f g t els k ws SS T:=by
 unfold L9 B9
 simp only[I9,P9]
 repeat' with_reducible (first
  | refine ZR.h ?_ | refine zI ?_
  | (refine VK (mos:=q5_13) hE x5_13 (by kernel_rfl) xe5_13 ?_;intro K hK;rw[x5_13];rw[Ze];simp[Yy,hkI,hrow2,hl6,hl7,h47,h48,hSl,hmx,p1,p2,p3,p4,r5,d30,d31,d39,d40];rw[Ze];simp[Yu,hkI,hrow2,hl6,hl7,h47,h48,hSl,hmx,p1,p2,p3,p4,r5,d30,d31,d39,d40];rw[Ze];simp[YB,hkI,hrow2,hl6,hl7,h47,h48,hSl,hmx,p1,p2,p3,p4,r5,d30,d31,d39,d40];rw[Ze];simp[Yx,hkI,hrow2,hl6,hl7,h47,h48,hSl,hmx,p1,p2,p3,p4,r5,d30,d31,d39,d40];rw[Ze];simp[Yv,hkI,hrow2,hl6,hl7,h47,h48,hSl,hmx,p1,p2,p3,p4,r5,d30,d31,d39,d40];rw[Ze];simp[Yz,hkI,hrow2,hl6,hl7,h47,h48,hSl,hmx,p1,p2,p3,p4,r5,d30,d31,d39,d40];rw[YO];(repeat' (first | refine hK _ _ ?_ | refine And.intro ?_ ?_ | (intro hc;try subst hc)))<;>(try clear hK K))
  | ((first | refine zK hE ?_ | refine zL hE yM ?_);intro K hK;simp[hkI,hrow2,hl6,hl7,h47,h48,hSl,hmx,p1,p2,p3,p4,r5,d30,d31,d39,d40];(repeat' (first | refine hK _ _ ?_ | refine And.intro ?_ ?_ | (intro hc;try subst hc)))<;>(try clear hK K))
  | (refine zJ (fun hc=>?_) (fun hc=>?_)<;>simp at hc<;>(try subst hc)))
 all_goals first|(simp;done)|((try simp[hnone,YV]);refine Imp.aut ?_ ?_<;>simp[NLe,ZM,hTe,hCe,hnone,YV])
theorem b9_8 {w0:World} {S:Sc} {a b c d e f g:Int} {t:Nat} {els:List (List AV)} {k:Nat} {ws SS T:List (List AV)} (hE:Zb Tryz.prog (EL [(30,Zi [] d30 ok30),(31,Zi [] d31 ok31),(32,Zi [] d32 ok32),(33,Zi [] d33 ok33),(34,rdS d34 ok34),(35,rdS d35 ok35),(36,rdS d36 ok36),(37,rdS d37 ok37),(39,rdS d39 ok39),(40,rdS d40 ok40),(38,Zi [(7,true)] d38 ok38)])) (hS:S.m=(oA [(10,false)] [.agg [.int .i64 a,.int .i64 b,.int .i64 c,.int .i64 d,.int .i64 e,.int .i64 f,.int .i64 g],.os t 10 els]).length) (hTe:ZG els=els) (hCe:Yp els=true) (hkI:(k:Int)<(els.length:Int)) {kd:Int} {fl:Bool} {sg sl sf nm sd pr le un mxv chk:Int} (hrow2:els[k]?=some [.int .i64 kd,.bool fl,.int .i64 sg,.int .i64 sl,.int .i64 sf,.int .i64 nm,.int .i64 sd,.int .i64 pr,.int .i64 le,.int .i64 un]) (hSl:(SS.length:Int)=a*b) (hmx:(if sl<le then le else sl)=mxv)
  (h48:d37 [.agg [.int .i64 a,.int .i64 b,.int .i64 c,.int .i64 d,.int .i64 e,.int .i64 f,.int .i64 g],.agg [.int .i64 nm,.int .i64 sd,.int .i64 pr,.int .i64 le,.int .i64 un],.int .i64 mxv,.int .i64 0] []=some (.int .i64 chk)) (h47:d36 [.int .i64 kd] []=some (.bool (Zt kd))) {v u:Int} (hl6:d34 [.agg [.int .i64 kd,.bool fl,.int .i64 sg,.int .i64 sl,.int .i64 sf]] []=some (.tup [.int .u64 v,.int .i64 0])) (hl7:d35 [.agg [.int .i64 nm,.int .i64 sd,.int .i64 pr,.int .i64 le,.int .i64 un]] []=some (.tup [.int .u64 u,.int .i64 0])) (hnone:ZK a b c d e f g els els.length=none) (p1:¬ a*b≤(k:Int)) (p2:¬ sg<1) (p3:¬ g<sg) (p4:¬ sl<1) (p5:¬ f≤sf) (l2:Zt kd=false) (l3:kd<5):L9 w0 S a b c d e f g t els k ws SS T:=by
 unfold L9 B9
 simp only[I9,P9]
 repeat' with_reducible (first
  | refine ZR.h ?_ | refine zI ?_
  | (refine VK (mos:=q5_13) hE x5_13 (by kernel_rfl) xe5_13 ?_;intro K hK;rw[x5_13];rw[Ze];simp[Yy,hkI,hrow2,hl6,hl7,h47,h48,hSl,hmx,p1,p2,p3,p4,p5,l2,l3,d30,d31,d39,d40];rw[Ze];simp[Yu,hkI,hrow2,hl6,hl7,h47,h48,hSl,hmx,p1,p2,p3,p4,p5,l2,l3,d30,d31,d39,d40];rw[Ze];simp[YB,hkI,hrow2,hl6,hl7,h47,h48,hSl,hmx,p1,p2,p3,p4,p5,l2,l3,d30,d31,d39,d40];rw[Ze];simp[Yx,hkI,hrow2,hl6,hl7,h47,h48,hSl,hmx,p1,p2,p3,p4,p5,l2,l3,d30,d31,d39,d40];rw[Ze];simp[Yv,hkI,hrow2,hl6,hl7,h47,h48,hSl,hmx,p1,p2,p3,p4,p5,l2,l3,d30,d31,d39,d40];rw[Ze];simp[Yz,hkI,hrow2,hl6,hl7,h47,h48,hSl,hmx,p1,p2,p3,p4,p5,l2,l3,d30,d31,d39,d40];rw[YO];(repeat' (first | refine hK _ _ ?_ | refine And.intro ?_ ?_ | (intro hc;try subst hc)))<;>(try clear hK K))
  | ((first | refine zK hE ?_ | refine zL hE yM ?_);intro K hK;simp[hkI,hrow2,hl6,hl7,h47,h48,hSl,hmx,p1,p2,p3,p4,p5,l2,l3,d30,d31,d39,d40];(repeat' (first | refine hK _ _ ?_ | refine And.intro ?_ ?_ | (intro hc;try subst hc)))<;>(try clear hK K))
  | (refine zJ (fun hc=>?_) (fun hc=>?_)<;>simp at hc<;>(try subst hc)))
 all_goals first|(simp;done)|((try simp[hnone,YV]);refine Imp.aut ?_ ?_<;>simp[NLe,ZM,hTe,hCe,hnone,YV])
end Go.W
