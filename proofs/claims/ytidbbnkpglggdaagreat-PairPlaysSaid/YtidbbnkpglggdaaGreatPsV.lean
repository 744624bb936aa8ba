/- A part of the proofs about the pair's laws (PsV3, PsV4, PsV). -/
import Derived.Test.YtidbbnkpglggdaaGreatPsV2
namespace Go.W
open Go.Proofs
set_option linter.unusedSimpArgs false
set_option linter.unusedVariables false
set_option maxHeartbeats 8000000
attribute [local irreducible] Wm
attribute [local simp] Y5 lkp VW prs Uv prT ddL idL YN Um Ren Vt NObj.none Z4
set_option maxRecDepth 8000
theorem b9_9a {w0:World} {S:Sc} {a b c d e f g:Int} {t:Nat} {els:List (List AV)} {k:Nat} {ws SS T:List (List AV)} (hE:Zb Tryz.prog (EL [(30,Zi [] d30 ok30),(31,Zi [] d31 ok31),(32,Zi [] d32 ok32),(33,Zi [] d33 ok33),(34,rdS d34 ok34),(35,rdS d35 ok35),(36,rdS d36 ok36),(37,rdS d37 ok37),(39,rdS d39 ok39),(40,rdS d40 ok40),(38,Zi [(7,true)] d38 ok38)])) (hS:S.m=(oA [(10,false)] [.agg [.int .i64 a,.int .i64 b,.int .i64 c,.int .i64 d,.int .i64 e,.int .i64 f,.int .i64 g],.os t 10 els]).length) (hTe:ZG els=els) (hCe:Yp els=true) (hkI:(k:Int)<(els.length:Int)) {kd:Int} {sg sl sf nm sd pr le un mxv chk:Int} (hrow2:els[k]?=some [.int .i64 kd,.bool true,.int .i64 sg,.int .i64 sl,.int .i64 sf,.int .i64 nm,.int .i64 sd,.int .i64 pr,.int .i64 le,.int .i64 un]) (hSl:(SS.length:Int)=a*b) (hmx:(if sl<le then le else sl)=mxv)
  (h48:d37 [.agg [.int .i64 a,.int .i64 b,.int .i64 c,.int .i64 d,.int .i64 e,.int .i64 f,.int .i64 g],.agg [.int .i64 nm,.int .i64 sd,.int .i64 pr,.int .i64 le,.int .i64 un],.int .i64 mxv,.int .i64 0] []=some (.int .i64 chk)) (h47:d36 [.int .i64 kd] []=some (.bool (Zt kd))) {v u:Int} (hl6:d34 [.agg [.int .i64 kd,.bool true,.int .i64 sg,.int .i64 sl,.int .i64 sf]] []=some (.tup [.int .u64 v,.int .i64 0])) (hl7:d35 [.agg [.int .i64 nm,.int .i64 sd,.int .i64 pr,.int .i64 le,.int .i64 un]] []=some (.tup [.int .u64 u,.int .i64 0])) (hnone:ZK a b c d e f g els els.length=none) (p1:¬ a*b≤(k:Int)) (p2:¬ sg<1) (p3:¬ g<sg) (p4:¬ sl<1) (p5:¬ f≤sf) (l1:Zt kd=true):L9 w0 S a b c d e f g t els k ws SS T:=by
 unfold L9 B9
 simp only[I9,P9]
 repeat' with_reducible (first
  | refine ZR.h ?_ | refine zI ?_
  | (refine VK (mos:=q5_13) hE x5_13 (by kernel_rfl) xe5_13 ?_;intro K hK;rw[x5_13];rw[Ze];simp[Yy,hkI,hrow2,hl6,hl7,h47,h48,hSl,hmx,p1,p2,p3,p4,p5,l1,d30,d31,d39,d40];rw[Ze];simp[Yu,hkI,hrow2,hl6,hl7,h47,h48,hSl,hmx,p1,p2,p3,p4,p5,l1,d30,d31,d39,d40];rw[Ze];simp[YB,hkI,hrow2,hl6,hl7,h47,h48,hSl,hmx,p1,p2,p3,p4,p5,l1,d30,d31,d39,d40];rw[Ze];simp[Yx,hkI,hrow2,hl6,hl7,h47,h48,hSl,hmx,p1,p2,p3,p4,p5,l1,d30,d31,d39,d40];rw[Ze];simp[Yv,hkI,hrow2,hl6,hl7,h47,h48,hSl,hmx,p1,p2,p3,p4,p5,l1,d30,d31,d39,d40];rw[Ze];simp[Yz,hkI,hrow2,hl6,hl7,h47,h48,hSl,hmx,p1,p2,p3,p4,p5,l1,d30,d31,d39,d40];rw[YO];(repeat' (first | refine hK _ _ ?_ | refine And.intro ?_ ?_ | (intro hc;try subst hc)))<;>(try clear hK K))
  | ((first | refine zK hE ?_ | refine zL hE yM ?_);intro K hK;simp[hkI,hrow2,hl6,hl7,h47,h48,hSl,hmx,p1,p2,p3,p4,p5,l1,d30,d31,d39,d40];(repeat' (first | refine hK _ _ ?_ | refine And.intro ?_ ?_ | (intro hc;try subst hc)))<;>(try clear hK K))
  | (refine zJ (fun hc=>?_) (fun hc=>?_)<;>simp at hc<;>(try subst hc)))
 all_goals first|(simp;done)|((try simp[hnone,YV]);refine Imp.aut ?_ ?_<;>simp[NLe,ZM,hTe,hCe,hnone,YV])
theorem b9_9b {w0:World} {S:Sc} {a b c d e f g:Int} {t:Nat} {els:List (List AV)} {k:Nat} {ws SS T:List (List AV)} (hE:Zb Tryz.prog (EL [(30,Zi [] d30 ok30),(31,Zi [] d31 ok31),(32,Zi [] d32 ok32),(33,Zi [] d33 ok33),(34,rdS d34 ok34),(35,rdS d35 ok35),(36,rdS d36 ok36),(37,rdS d37 ok37),(39,rdS d39 ok39),(40,rdS d40 ok40),(38,Zi [(7,true)] d38 ok38)])) (hS:S.m=(oA [(10,false)] [.agg [.int .i64 a,.int .i64 b,.int .i64 c,.int .i64 d,.int .i64 e,.int .i64 f,.int .i64 g],.os t 10 els]).length) (hTe:ZG els=els) (hCe:Yp els=true) (hkI:(k:Int)<(els.length:Int)) {kd:Int} {sg sl sf nm sd pr le un mxv chk:Int} (hrow2:els[k]?=some [.int .i64 kd,.bool true,.int .i64 sg,.int .i64 sl,.int .i64 sf,.int .i64 nm,.int .i64 sd,.int .i64 pr,.int .i64 le,.int .i64 un]) (hSl:(SS.length:Int)=a*b) (hmx:(if sl<le then le else sl)=mxv)
  (h48:d37 [.agg [.int .i64 a,.int .i64 b,.int .i64 c,.int .i64 d,.int .i64 e,.int .i64 f,.int .i64 g],.agg [.int .i64 nm,.int .i64 sd,.int .i64 pr,.int .i64 le,.int .i64 un],.int .i64 mxv,.int .i64 0] []=some (.int .i64 chk)) (h47:d36 [.int .i64 kd] []=some (.bool (Zt kd))) {v u:Int} (hl6:d34 [.agg [.int .i64 kd,.bool true,.int .i64 sg,.int .i64 sl,.int .i64 sf]] []=some (.tup [.int .u64 v,.int .i64 0])) (hl7:d35 [.agg [.int .i64 nm,.int .i64 sd,.int .i64 pr,.int .i64 le,.int .i64 un]] []=some (.tup [.int .u64 u,.int .i64 0])) (hnone:ZK a b c d e f g els els.length=none) (p1:¬ a*b≤(k:Int)) (p2:¬ sg<1) (p3:¬ g<sg) (p4:¬ sl<1) (p5:¬ f≤sf) (l2:Zt kd=false) (l4:¬ kd<5):L9 w0 S a b c d e f g t els k ws SS T:=by
 unfold L9 B9
 simp only[I9,P9]
 repeat' with_reducible (first
  | refine ZR.h ?_ | refine zI ?_
  | (refine VK (mos:=q5_13) hE x5_13 (by kernel_rfl) xe5_13 ?_;intro K hK;rw[x5_13];rw[Ze];simp[Yy,hkI,hrow2,hl6,hl7,h47,h48,hSl,hmx,p1,p2,p3,p4,p5,l2,l4,d30,d31,d39,d40];rw[Ze];simp[Yu,hkI,hrow2,hl6,hl7,h47,h48,hSl,hmx,p1,p2,p3,p4,p5,l2,l4,d30,d31,d39,d40];rw[Ze];simp[YB,hkI,hrow2,hl6,hl7,h47,h48,hSl,hmx,p1,p2,p3,p4,p5,l2,l4,d30,d31,d39,d40];rw[Ze];simp[Yx,hkI,hrow2,hl6,hl7,h47,h48,hSl,hmx,p1,p2,p3,p4,p5,l2,l4,d30,d31,d39,d40];rw[Ze];simp[Yv,hkI,hrow2,hl6,hl7,h47,h48,hSl,hmx,p1,p2,p3,p4,p5,l2,l4,d30,d31,d39,d40];rw[Ze];simp[Yz,hkI,hrow2,hl6,hl7,h47,h48,hSl,hmx,p1,p2,p3,p4,p5,l2,l4,d30,d31,d39,d40];rw[YO];(repeat' (first | refine hK _ _ ?_ | refine And.intro ?_ ?_ | (intro hc;try subst hc)))<;>(try clear hK K))
  | ((first | refine zK hE ?_ | refine zL hE yM ?_);intro K hK;simp[hkI,hrow2,hl6,hl7,h47,h48,hSl,hmx,p1,p2,p3,p4,p5,l2,l4,d30,d31,d39,d40];(repeat' (first | refine hK _ _ ?_ | refine And.intro ?_ ?_ | (intro hc;try subst hc)))<;>(try clear hK K))
  | (refine zJ (fun hc=>?_) (fun hc=>?_)<;>simp at hc<;>(try subst hc)))
 all_goals first|(simp;done)|((try simp[hnone,YV]);refine Imp.aut ?_ ?_<;>simp[NLe,ZM,hTe,hCe,hnone,YV])
theorem Zhs {w0:World} {S:Sc} {a b c d e f g:Int} {t:Nat} {els:List (List AV)} {k:Nat} {ws SS T:List (List AV)} (hE:Zb Tryz.prog (EL [(30,Zi [] d30 ok30),(31,Zi [] d31 ok31),(32,Zi [] d32 ok32),(33,Zi [] d33 ok33),(34,rdS d34 ok34),(35,rdS d35 ok35),(36,rdS d36 ok36),(37,rdS d37 ok37),(39,rdS d39 ok39),(40,rdS d40 ok40),(38,Zi [(7,true)] d38 ok38)])) (hS:S.m=(oA [(10,false)] [.agg [.int .i64 a,.int .i64 b,.int .i64 c,.int .i64 d,.int .i64 e,.int .i64 f,.int .i64 g],.os t 10 els]).length) (hTe:ZG els=els) (hCe:Yp els=true) (hkI:(k:Int)<(els.length:Int)) {kd:Int} {sg sl sf nm sd pr le un mxv chk:Int} (hrow2:els[k]?=some [.int .i64 kd,.bool false,.int .i64 sg,.int .i64 sl,.int .i64 sf,.int .i64 nm,.int .i64 sd,.int .i64 pr,.int .i64 le,.int .i64 un]) (hSl:(SS.length:Int)=a*b) (hmx:(if sl<le then le else sl)=mxv)
  (h48:d37 [.agg [.int .i64 a,.int .i64 b,.int .i64 c,.int .i64 d,.int .i64 e,.int .i64 f,.int .i64 g],.agg [.int .i64 nm,.int .i64 sd,.int .i64 pr,.int .i64 le,.int .i64 un],.int .i64 mxv,.int .i64 0] []=some (.int .i64 chk)) (h47:d36 [.int .i64 kd] []=some (.bool (Zt kd))) {v u:Int} (hl6:d34 [.agg [.int .i64 kd,.bool false,.int .i64 sg,.int .i64 sl,.int .i64 sf]] []=some (.tup [.int .u64 v,.int .i64 0])) (hl7:d35 [.agg [.int .i64 nm,.int .i64 sd,.int .i64 pr,.int .i64 le,.int .i64 un]] []=some (.tup [.int .u64 u,.int .i64 0])) (hnone:ZK a b c d e f g els els.length=none) (p1:¬ a*b≤(k:Int)) (p2:¬ sg<1) (p3:¬ g<sg) (p4:¬ sl<1) (p5:¬ f≤sf) (l1:Zt kd=true) (r8:¬ chk=0):L9 w0 S a b c d e f g t els k ws SS T:=by
 unfold L9 B9
 simp only[I9,P9]
 repeat' with_reducible (first
  | refine ZR.h ?_ | refine zI ?_
  | (refine VK (mos:=q5_13) hE x5_13 (by kernel_rfl) xe5_13 ?_;intro K hK;rw[x5_13];rw[Ze];simp[Yy,hkI,hrow2,hl6,hl7,h47,h48,hSl,hmx,p1,p2,p3,p4,p5,l1,r8,d30,d31,d39,d40];rw[Ze];simp[Yu,hkI,hrow2,hl6,hl7,h47,h48,hSl,hmx,p1,p2,p3,p4,p5,l1,r8,d30,d31,d39,d40];rw[Ze];simp[YB,hkI,hrow2,hl6,hl7,h47,h48,hSl,hmx,p1,p2,p3,p4,p5,l1,r8,d30,d31,d39,d40];rw[Ze];simp[Yx,hkI,hrow2,hl6,hl7,h47,h48,hSl,hmx,p1,p2,p3,p4,p5,l1,r8,d30,d31,d39,d40];rw[Ze];simp[Yv,hkI,hrow2,hl6,hl7,h47,h48,hSl,hmx,p1,p2,p3,p4,p5,l1,r8,d30,d31,d39,d40];rw[Ze];simp[Yz,hkI,hrow2,hl6,hl7,h47,h48,hSl,hmx,p1,p2,p3,p4,p5,l1,r8,d30,d31,d39,d40];rw[YO];(repeat' (first | refine hK _ _ ?_ | refine And.intro ?_ ?_ | (intro hc;try subst hc)))<;>(try clear hK K))
  | ((first | refine zK hE ?_ | refine zL hE yM ?_);intro K hK;simp[hkI,hrow2,hl6,hl7,h47,h48,hSl,hmx,p1,p2,p3,p4,p5,l1,r8,d30,d31,d39,d40];(repeat' (first | refine hK _ _ ?_ | refine And.intro ?_ ?_ | (intro hc;try subst hc)))<;>(try clear hK K))
  | (refine zJ (fun hc=>?_) (fun hc=>?_)<;>simp at hc<;>(try subst hc)))
 all_goals first|(simp;done)|((try simp[hnone,YV]);refine Imp.aut ?_ ?_<;>simp[NLe,ZM,hTe,hCe,hnone,YV])
theorem Zh9 {w0:World} {S:Sc} {a b c d e f g:Int} {t:Nat} {els:List (List AV)} {k:Nat} {ws SS T:List (List AV)} (hE:Zb Tryz.prog (EL [(30,Zi [] d30 ok30),(31,Zi [] d31 ok31),(32,Zi [] d32 ok32),(33,Zi [] d33 ok33),(34,rdS d34 ok34),(35,rdS d35 ok35),(36,rdS d36 ok36),(37,rdS d37 ok37),(39,rdS d39 ok39),(40,rdS d40 ok40),(38,Zi [(7,true)] d38 ok38)])) (hS:S.m=(oA [(10,false)] [.agg [.int .i64 a,.int .i64 b,.int .i64 c,.int .i64 d,.int .i64 e,.int .i64 f,.int .i64 g],.os t 10 els]).length) (hTe:ZG els=els) (hCe:Yp els=true) (hkI:(k:Int)<(els.length:Int)) {kd:Int} {sg sl sf nm sd pr le un mxv chk:Int} (hrow2:els[k]?=some [.int .i64 kd,.bool false,.int .i64 sg,.int .i64 sl,.int .i64 sf,.int .i64 nm,.int .i64 sd,.int .i64 pr,.int .i64 le,.int .i64 un]) (hSl:(SS.length:Int)=a*b) (hmx:(if sl<le then le else sl)=mxv)
  (h48:d37 [.agg [.int .i64 a,.int .i64 b,.int .i64 c,.int .i64 d,.int .i64 e,.int .i64 f,.int .i64 g],.agg [.int .i64 nm,.int .i64 sd,.int .i64 pr,.int .i64 le,.int .i64 un],.int .i64 mxv,.int .i64 0] []=some (.int .i64 chk)) (h47:d36 [.int .i64 kd] []=some (.bool (Zt kd))) {v u:Int} (hl6:d34 [.agg [.int .i64 kd,.bool false,.int .i64 sg,.int .i64 sl,.int .i64 sf]] []=some (.tup [.int .u64 v,.int .i64 0])) (hl7:d35 [.agg [.int .i64 nm,.int .i64 sd,.int .i64 pr,.int .i64 le,.int .i64 un]] []=some (.tup [.int .u64 u,.int .i64 0])) (hnone:ZK a b c d e f g els els.length=none) (p1:¬ a*b≤(k:Int)) (p2:¬ sg<1) (p3:¬ g<sg) (p4:¬ sl<1) (p5:¬ f≤sf) (l2:Zt kd=false) (l4:¬ kd<5) (r8:¬ chk=0):L9 w0 S a b c d e f g t els k ws SS T:=by
 unfold L9 B9
 simp only[I9,P9]
 repeat' with_reducible (first
  | refine ZR.h ?_ | refine zI ?_
  | (refine VK (mos:=q5_13) hE x5_13 (by kernel_rfl) xe5_13 ?_;intro K hK;rw[x5_13];rw[Ze];simp[Yy,hkI,hrow2,hl6,hl7,h47,h48,hSl,hmx,p1,p2,p3,p4,p5,l2,l4,r8,d30,d31,d39,d40];rw[Ze];simp[Yu,hkI,hrow2,hl6,hl7,h47,h48,hSl,hmx,p1,p2,p3,p4,p5,l2,l4,r8,d30,d31,d39,d40];rw[Ze];simp[YB,hkI,hrow2,hl6,hl7,h47,h48,hSl,hmx,p1,p2,p3,p4,p5,l2,l4,r8,d30,d31,d39,d40];rw[Ze];simp[Yx,hkI,hrow2,hl6,hl7,h47,h48,hSl,hmx,p1,p2,p3,p4,p5,l2,l4,r8,d30,d31,d39,d40];rw[Ze];simp[Yv,hkI,hrow2,hl6,hl7,h47,h48,hSl,hmx,p1,p2,p3,p4,p5,l2,l4,r8,d30,d31,d39,d40];rw[Ze];simp[Yz,hkI,hrow2,hl6,hl7,h47,h48,hSl,hmx,p1,p2,p3,p4,p5,l2,l4,r8,d30,d31,d39,d40];rw[YO];(repeat' (first | refine hK _ _ ?_ | refine And.intro ?_ ?_ | (intro hc;try subst hc)))<;>(try clear hK K))
  | ((first | refine zK hE ?_ | refine zL hE yM ?_);intro K hK;simp[hkI,hrow2,hl6,hl7,h47,h48,hSl,hmx,p1,p2,p3,p4,p5,l2,l4,r8,d30,d31,d39,d40];(repeat' (first | refine hK _ _ ?_ | refine And.intro ?_ ?_ | (intro hc;try subst hc)))<;>(try clear hK K))
  | (refine zJ (fun hc=>?_) (fun hc=>?_)<;>simp at hc<;>(try subst hc)))
 all_goals first|(simp;done)|((try simp[hnone,YV]);refine Imp.aut ?_ ?_<;>simp[NLe,ZM,hTe,hCe,hnone,YV])
theorem b9_a {w0:World} {S:Sc} {a b c d e f g:Int} {t:Nat} {els:List (List AV)} {k:Nat} {ws SS T:List (List AV)} (hE:Zb Tryz.prog (EL [(30,Zi [] d30 ok30),(31,Zi [] d31 ok31),(32,Zi [] d32 ok32),(33,Zi [] d33 ok33),(34,rdS d34 ok34),(35,rdS d35 ok35),(36,rdS d36 ok36),(37,rdS d37 ok37),(39,rdS d39 ok39),(40,rdS d40 ok40),(38,Zi [(7,true)] d38 ok38)])) (hS:S.m=(oA [(10,false)] [.agg [.int .i64 a,.int .i64 b,.int .i64 c,.int .i64 d,.int .i64 e,.int .i64 f,.int .i64 g],.os t 10 els]).length) (hTe:ZG els=els) (hCe:Yp els=true) (hkI:(k:Int)<(els.length:Int)) {kd:Int} {sg sl sf nm sd pr le un mxv chk:Int} (hrow2:els[k]?=some [.int .i64 kd,.bool false,.int .i64 sg,.int .i64 sl,.int .i64 sf,.int .i64 nm,.int .i64 sd,.int .i64 pr,.int .i64 le,.int .i64 un]) (hSl:(SS.length:Int)=a*b) (hmx:(if sl<le then le else sl)=mxv)
  (h48:d37 [.agg [.int .i64 a,.int .i64 b,.int .i64 c,.int .i64 d,.int .i64 e,.int .i64 f,.int .i64 g],.agg [.int .i64 nm,.int .i64 sd,.int .i64 pr,.int .i64 le,.int .i64 un],.int .i64 mxv,.int .i64 0] []=some (.int .i64 chk)) (h47:d36 [.int .i64 kd] []=some (.bool (Zt kd))) {v u:Int} (hl6:d34 [.agg [.int .i64 kd,.bool false,.int .i64 sg,.int .i64 sl,.int .i64 sf]] []=some (.tup [.int .u64 v,.int .i64 0])) (hl7:d35 [.agg [.int .i64 nm,.int .i64 sd,.int .i64 pr,.int .i64 le,.int .i64 un]] []=some (.tup [.int .u64 u,.int .i64 0])) (hcf:XX a b c d e f g=true) (hkl:k<els.length) (hTw:ZG ws=ws) (hCw:Yp ws=true) (hTS:ZG SS=SS) (hCS:Yp SS=true) (hTT:ZG T=T) (hCT:Yp T=true) {ws1 ws2:List (List AV)} (hTw1:ZG ws1=ws1) (hCw1:Yp ws1=true) (hTw2:ZG ws2=ws2) (hCw2:Yp ws2=true) (hkS:k<SS.length) (hkT:k<T.length) (hk9:(k:Int)≤1000) (hS5:∀ c,c∈SS→c.length=5) (hT5:∀ c,c∈T→c.length=5)
  (h49a:∀ t1 t2,d38 [.op t1 [.os t2 1 ws,.int .i64 (2*(k:Int)),.bot,.bot,.bot,.bot,.bot],.int .i64 (2*(k:Int)),.int .u64 v]=some ⟨.raw .nilIface,[.cells 0 [.os 0 1 ws1,.int .i64 (2*(k:Int)+1),.bot,.bot,.bot,.bot,.bot]]⟩)
  (h49b:∀ t1 t2,d38 [.op t1 [.os t2 1 ws1,.int .i64 (2*(k:Int)+1),.bot,.bot,.bot,.bot,.bot],.int .i64 (2*(k:Int)+1),.int .u64 u]=some ⟨.raw .nilIface,[.cells 0 [.os 0 1 ws2,.int .i64 (2*(k:Int)+1+1),.bot,.bot,.bot,.bot,.bot]]⟩)
  (hyes:ZK a b c d e f g els (k+1)=some (ws2,SS.set k [.int .i64 kd,.bool false,.int .i64 sg,.int .i64 sl,.int .i64 sf],T.set k [.int .i64 nm,.int .i64 sd,.int .i64 pr,.int .i64 le,.int .i64 un])) (p1:¬ a*b≤(k:Int)) (p2:¬ sg<1) (p3:¬ g<sg) (p4:¬ sl<1) (p5:¬ f≤sf) (l1:Zt kd=true) (h8:chk=0):L9 w0 S a b c d e f g t els k ws SS T:=by
 unfold L9 B9
 simp only[I9,P9]
 have hk0:0≤(k:Int):=by omega
 have hS6:=hS5 _ (List.getElem_mem hkS)
 have hT6:=hT5 _ (List.getElem_mem hkT)
 have hS7:List.drop 5 SS[k]=[]:=List.drop_eq_nil_of_le (by omega)
 have hT7:List.drop 5 T[k]=[]:=List.drop_eq_nil_of_le (by omega)
 have hka:(k:Int)<a*b:=by omega
 have hkTI:(k:Int)<(T.length:Int):=by omega
 have ww:IntKind.wrap .i64 ((k:Int)+1)=(k:Int)+1:=Zh (by omega) (by omega)
 have hTS2:=zU (c:=[.int .i64 kd,.bool false,.int .i64 sg,.int .i64 sl,.int .i64 sf]) rfl k hTS
 have hCS2:=zQ (c:=[.int .i64 kd,.bool false,.int .i64 sg,.int .i64 sl,.int .i64 sf]) rfl k hCS
 have hTT2:=zU (c:=[.int .i64 nm,.int .i64 sd,.int .i64 pr,.int .i64 le,.int .i64 un]) rfl k hTT
 have hCT2:=zQ (c:=[.int .i64 nm,.int .i64 sd,.int .i64 pr,.int .i64 le,.int .i64 un]) rfl k hCT
 have e5:2*(((k+1:Nat):Int))=2*(k:Int)+1+1:=by omega
 repeat' with_reducible (first
  | refine ZR.h ?_ | refine zI ?_
  | (refine VK (mos:=q5_13) hE x5_13 (by kernel_rfl) xe5_13 ?_;intro K hK;rw[x5_13];rw[Ze];simp[Yy,hkI,hrow2,hl6,hl7,h47,h48,hSl,hmx,p1,p2,p3,p4,p5,l1,h8,hcf,hk0,hk9,h49a,h49b,hTw,hCw,hTw1,hCw1,hTw2,hCw2,hTS,hCS,hTT,hCT,hkS,hkT,ww,hka,hkTI,hS6,hT6,hS7,hT7,d30,d31,d39,d40];rw[Ze];simp[Yu,hkI,hrow2,hl6,hl7,h47,h48,hSl,hmx,p1,p2,p3,p4,p5,l1,h8,hcf,hk0,hk9,h49a,h49b,hTw,hCw,hTw1,hCw1,hTw2,hCw2,hTS,hCS,hTT,hCT,hkS,hkT,ww,hka,hkTI,hS6,hT6,hS7,hT7,d30,d31,d39,d40];rw[Ze];simp[YB,hkI,hrow2,hl6,hl7,h47,h48,hSl,hmx,p1,p2,p3,p4,p5,l1,h8,hcf,hk0,hk9,h49a,h49b,hTw,hCw,hTw1,hCw1,hTw2,hCw2,hTS,hCS,hTT,hCT,hkS,hkT,ww,hka,hkTI,hS6,hT6,hS7,hT7,d30,d31,d39,d40];rw[Ze];simp[Yx,hkI,hrow2,hl6,hl7,h47,h48,hSl,hmx,p1,p2,p3,p4,p5,l1,h8,hcf,hk0,hk9,h49a,h49b,hTw,hCw,hTw1,hCw1,hTw2,hCw2,hTS,hCS,hTT,hCT,hkS,hkT,ww,hka,hkTI,hS6,hT6,hS7,hT7,d30,d31,d39,d40];rw[Ze];simp[Yv,hkI,hrow2,hl6,hl7,h47,h48,hSl,hmx,p1,p2,p3,p4,p5,l1,h8,hcf,hk0,hk9,h49a,h49b,hTw,hCw,hTw1,hCw1,hTw2,hCw2,hTS,hCS,hTT,hCT,hkS,hkT,ww,hka,hkTI,hS6,hT6,hS7,hT7,d30,d31,d39,d40];rw[Ze];simp[Yz,hkI,hrow2,hl6,hl7,h47,h48,hSl,hmx,p1,p2,p3,p4,p5,l1,h8,hcf,hk0,hk9,h49a,h49b,hTw,hCw,hTw1,hCw1,hTw2,hCw2,hTS,hCS,hTT,hCT,hkS,hkT,ww,hka,hkTI,hS6,hT6,hS7,hT7,d30,d31,d39,d40];rw[YO];(repeat' (first | refine hK _ _ ?_ | refine And.intro ?_ ?_ | (intro hc;try subst hc)))<;>(try clear hK K))
  | ((first | refine zK hE ?_ | refine zL hE yM ?_);intro K hK;simp[hkI,hrow2,hl6,hl7,h47,h48,hSl,hmx,p1,p2,p3,p4,p5,l1,h8,hcf,hk0,hk9,h49a,h49b,hTw,hCw,hTw1,hCw1,hTw2,hCw2,hTS,hCS,hTT,hCT,hkS,hkT,ww,hka,hkTI,hS6,hT6,hS7,hT7,d30,d31,d39,d40];(repeat' (first | refine hK _ _ ?_ | refine And.intro ?_ ?_ | (intro hc;try subst hc)))<;>(try clear hK K))
  | (refine zJ (fun hc=>?_) (fun hc=>?_)<;>simp at hc<;>(try subst hc)))
 all_goals (show xE _ _ _ _ _ _ _ _)
 all_goals refine ⟨(k+1,ws2,SS.set k [.int .i64 kd,.bool false,.int .i64 sg,.int .i64 sl,.int .i64 sf],T.set k [.int .i64 nm,.int .i64 sd,.int .i64 pr,.int .i64 le,.int .i64 un]),⟨hkl,hyes⟩,Nat.sub_lt_sub_left hkl (Nat.lt_succ_self k),?_⟩
 all_goals simp only[I9,e5]
 all_goals rw[hS]
 all_goals (refine Imp.aut ?_ ?_<;>simp[NLe,ZM,hTw,hCw,hTS,hCS,hTT,hCT,hTe,hCe,hTw2,hCw2,hTS2,hCS2,hTT2,hCT2])
theorem b9_b {w0:World} {S:Sc} {a b c d e f g:Int} {t:Nat} {els:List (List AV)} {k:Nat} {ws SS T:List (List AV)} (hE:Zb Tryz.prog (EL [(30,Zi [] d30 ok30),(31,Zi [] d31 ok31),(32,Zi [] d32 ok32),(33,Zi [] d33 ok33),(34,rdS d34 ok34),(35,rdS d35 ok35),(36,rdS d36 ok36),(37,rdS d37 ok37),(39,rdS d39 ok39),(40,rdS d40 ok40),(38,Zi [(7,true)] d38 ok38)])) (hS:S.m=(oA [(10,false)] [.agg [.int .i64 a,.int .i64 b,.int .i64 c,.int .i64 d,.int .i64 e,.int .i64 f,.int .i64 g],.os t 10 els]).length) (hTe:ZG els=els) (hCe:Yp els=true) (hkI:(k:Int)<(els.length:Int)) {kd:Int} {sg sl sf nm sd pr le un mxv chk:Int} (hrow2:els[k]?=some [.int .i64 kd,.bool false,.int .i64 sg,.int .i64 sl,.int .i64 sf,.int .i64 nm,.int .i64 sd,.int .i64 pr,.int .i64 le,.int .i64 un]) (hSl:(SS.length:Int)=a*b) (hmx:(if sl<le then le else sl)=mxv)
  (h48:d37 [.agg [.int .i64 a,.int .i64 b,.int .i64 c,.int .i64 d,.int .i64 e,.int .i64 f,.int .i64 g],.agg [.int .i64 nm,.int .i64 sd,.int .i64 pr,.int .i64 le,.int .i64 un],.int .i64 mxv,.int .i64 0] []=some (.int .i64 chk)) (h47:d36 [.int .i64 kd] []=some (.bool (Zt kd))) {v u:Int} (hl6:d34 [.agg [.int .i64 kd,.bool false,.int .i64 sg,.int .i64 sl,.int .i64 sf]] []=some (.tup [.int .u64 v,.int .i64 0])) (hl7:d35 [.agg [.int .i64 nm,.int .i64 sd,.int .i64 pr,.int .i64 le,.int .i64 un]] []=some (.tup [.int .u64 u,.int .i64 0])) (hcf:XX a b c d e f g=true) (hkl:k<els.length) (hTw:ZG ws=ws) (hCw:Yp ws=true) (hTS:ZG SS=SS) (hCS:Yp SS=true) (hTT:ZG T=T) (hCT:Yp T=true) {ws1 ws2:List (List AV)} (hTw1:ZG ws1=ws1) (hCw1:Yp ws1=true) (hTw2:ZG ws2=ws2) (hCw2:Yp ws2=true) (hkS:k<SS.length) (hkT:k<T.length) (hk9:(k:Int)≤1000) (hS5:∀ c,c∈SS→c.length=5) (hT5:∀ c,c∈T→c.length=5)
  (h49a:∀ t1 t2,d38 [.op t1 [.os t2 1 ws,.int .i64 (2*(k:Int)),.bot,.bot,.bot,.bot,.bot],.int .i64 (2*(k:Int)),.int .u64 v]=some ⟨.raw .nilIface,[.cells 0 [.os 0 1 ws1,.int .i64 (2*(k:Int)+1),.bot,.bot,.bot,.bot,.bot]]⟩)
  (h49b:∀ t1 t2,d38 [.op t1 [.os t2 1 ws1,.int .i64 (2*(k:Int)+1),.bot,.bot,.bot,.bot,.bot],.int .i64 (2*(k:Int)+1),.int .u64 u]=some ⟨.raw .nilIface,[.cells 0 [.os 0 1 ws2,.int .i64 (2*(k:Int)+1+1),.bot,.bot,.bot,.bot,.bot]]⟩)
  (hyes:ZK a b c d e f g els (k+1)=some (ws2,SS.set k [.int .i64 kd,.bool false,.int .i64 sg,.int .i64 sl,.int .i64 sf],T.set k [.int .i64 nm,.int .i64 sd,.int .i64 pr,.int .i64 le,.int .i64 un])) (p1:¬ a*b≤(k:Int)) (p2:¬ sg<1) (p3:¬ g<sg) (p4:¬ sl<1) (p5:¬ f≤sf) (l2:Zt kd=false) (l4:¬ kd<5) (h8:chk=0):L9 w0 S a b c d e f g t els k ws SS T:=by
 unfold L9 B9
 simp only[I9,P9]
 have hk0:0≤(k:Int):=by omega
 have hS6:=hS5 _ (List.getElem_mem hkS)
 have hT6:=hT5 _ (List.getElem_mem hkT)
 have hS7:List.drop 5 SS[k]=[]:=List.drop_eq_nil_of_le (by omega)
 have hT7:List.drop 5 T[k]=[]:=List.drop_eq_nil_of_le (by omega)
 have hka:(k:Int)<a*b:=by omega
 have hkTI:(k:Int)<(T.length:Int):=by omega
 have ww:IntKind.wrap .i64 ((k:Int)+1)=(k:Int)+1:=Zh (by omega) (by omega)
 have hTS2:=zU (c:=[.int .i64 kd,.bool false,.int .i64 sg,.int .i64 sl,.int .i64 sf]) rfl k hTS
 have hCS2:=zQ (c:=[.int .i64 kd,.bool false,.int .i64 sg,.int .i64 sl,.int .i64 sf]) rfl k hCS
 have hTT2:=zU (c:=[.int .i64 nm,.int .i64 sd,.int .i64 pr,.int .i64 le,.int .i64 un]) rfl k hTT
 have hCT2:=zQ (c:=[.int .i64 nm,.int .i64 sd,.int .i64 pr,.int .i64 le,.int .i64 un]) rfl k hCT
 have e5:2*(((k+1:Nat):Int))=2*(k:Int)+1+1:=by omega
 repeat' with_reducible (first
  | refine ZR.h ?_ | refine zI ?_
  | (refine VK (mos:=q5_13) hE x5_13 (by kernel_rfl) xe5_13 ?_;intro K hK;rw[x5_13];rw[Ze];simp[Yy,hkI,hrow2,hl6,hl7,h47,h48,hSl,hmx,p1,p2,p3,p4,p5,l2,l4,h8,hcf,hk0,hk9,h49a,h49b,hTw,hCw,hTw1,hCw1,hTw2,hCw2,hTS,hCS,hTT,hCT,hkS,hkT,ww,hka,hkTI,hS6,hT6,hS7,hT7,d30,d31,d39,d40];rw[Ze];simp[Yu,hkI,hrow2,hl6,hl7,h47,h48,hSl,hmx,p1,p2,p3,p4,p5,l2,l4,h8,hcf,hk0,hk9,h49a,h49b,hTw,hCw,hTw1,hCw1,hTw2,hCw2,hTS,hCS,hTT,hCT,hkS,hkT,ww,hka,hkTI,hS6,hT6,hS7,hT7,d30,d31,d39,d40];rw[Ze];simp[YB,hkI,hrow2,hl6,hl7,h47,h48,hSl,hmx,p1,p2,p3,p4,p5,l2,l4,h8,hcf,hk0,hk9,h49a,h49b,hTw,hCw,hTw1,hCw1,hTw2,hCw2,hTS,hCS,hTT,hCT,hkS,hkT,ww,hka,hkTI,hS6,hT6,hS7,hT7,d30,d31,d39,d40];rw[Ze];simp[Yx,hkI,hrow2,hl6,hl7,h47,h48,hSl,hmx,p1,p2,p3,p4,p5,l2,l4,h8,hcf,hk0,hk9,h49a,h49b,hTw,hCw,hTw1,hCw1,hTw2,hCw2,hTS,hCS,hTT,hCT,hkS,hkT,ww,hka,hkTI,hS6,hT6,hS7,hT7,d30,d31,d39,d40];rw[Ze];simp[Yv,hkI,hrow2,hl6,hl7,h47,h48,hSl,hmx,p1,p2,p3,p4,p5,l2,l4,h8,hcf,hk0,hk9,h49a,h49b,hTw,hCw,hTw1,hCw1,hTw2,hCw2,hTS,hCS,hTT,hCT,hkS,hkT,ww,hka,hkTI,hS6,hT6,hS7,hT7,d30,d31,d39,d40];rw[Ze];simp[Yz,hkI,hrow2,hl6,hl7,h47,h48,hSl,hmx,p1,p2,p3,p4,p5,l2,l4,h8,hcf,hk0,hk9,h49a,h49b,hTw,hCw,hTw1,hCw1,hTw2,hCw2,hTS,hCS,hTT,hCT,hkS,hkT,ww,hka,hkTI,hS6,hT6,hS7,hT7,d30,d31,d39,d40];rw[YO];(repeat' (first | refine hK _ _ ?_ | refine And.intro ?_ ?_ | (intro hc;try subst hc)))<;>(try clear hK K))
  | ((first | refine zK hE ?_ | refine zL hE yM ?_);intro K hK;simp[hkI,hrow2,hl6,hl7,h47,h48,hSl,hmx,p1,p2,p3,p4,p5,l2,l4,h8,hcf,hk0,hk9,h49a,h49b,hTw,hCw,hTw1,hCw1,hTw2,hCw2,hTS,hCS,hTT,hCT,hkS,hkT,ww,hka,hkTI,hS6,hT6,hS7,hT7,d30,d31,d39,d40];(repeat' (first | refine hK _ _ ?_ | refine And.intro ?_ ?_ | (intro hc;try subst hc)))<;>(try clear hK K))
  | (refine zJ (fun hc=>?_) (fun hc=>?_)<;>simp at hc<;>(try subst hc)))
 all_goals (show xE _ _ _ _ _ _ _ _)
 all_goals refine ⟨(k+1,ws2,SS.set k [.int .i64 kd,.bool false,.int .i64 sg,.int .i64 sl,.int .i64 sf],T.set k [.int .i64 nm,.int .i64 sd,.int .i64 pr,.int .i64 le,.int .i64 un]),⟨hkl,hyes⟩,Nat.sub_lt_sub_left hkl (Nat.lt_succ_self k),?_⟩
 all_goals simp only[I9,e5]
 all_goals rw[hS]
 all_goals (refine Imp.aut ?_ ?_<;>simp[NLe,ZM,hTw,hCw,hTS,hCS,hTT,hCT,hTe,hCe,hTw2,hCw2,hTS2,hCS2,hTT2,hCT2])
theorem s5:Sound Tryz.prog 5 (Zi [(10,false)] d5 ok5):=by
 refine Zj C5.a C5.b C5.c C5.d ok5 (fun xs a h=>?_) fun xs a h w0 S hS=>?_
 ·unfold d5 at h
  (repeat' (split at h))<;>first|(cases h;done)|exact Nat.le_of_ble_eq_true rfl
 unfold d5 at h;split at h
 ·split at h
  ·rename_i a b c d e f g u els hcond
   injection h with h;subst h;have hE:Zb Tryz.prog (EL [(30,Zi [] d30 ok30),(31,Zi [] d31 ok31),(32,Zi [] d32 ok32),(33,Zi [] d33 ok33),(34,rdS d34 ok34),(35,rdS d35 ok35),(36,rdS d36 ok36),(37,rdS d37 ok37),(39,rdS d39 ok39),(40,rdS d40 ok40),(38,Zi [(7,true)] d38 ok38)]):=Zd (by simp only[List.mem_cons,List.not_mem_nil,or_false,forall_eq_or_imp,forall_eq];exact ⟨s30,s31,s32,s33,s34,s35,s36,s37,s39,s40,s38⟩);have hTe:=ZaH hcond;have hCe:=Zan hcond;by_cases hcf:XX a b c d e f g=true
   ·rw[if_pos hcf]
    have hc:=ZH hcf;have hall:=ZJ hcf;have hwd:=Yl (f:=f) (g:=g) (show 0≤a*b by omega) hall.2 (by omega) (by omega);have hck:Xn a b c d e f g=-1:=(UL a b c d e f g).mpr hcf;have h43:d32 [.agg [.int .i64 a,.int .i64 b,.int .i64 c,.int .i64 d,.int .i64 e,.int .i64 f,.int .i64 g]]=some ⟨.tup [.op 0 (wzC (W0 a b c d e f g)),.raw .nilIface],[]⟩:=(by simp only[d32];rw[if_pos hcf]);have h44:d33 [.agg [.int .i64 a,.int .i64 b,.int .i64 c,.int .i64 d,.int .i64 e,.int .i64 f,.int .i64 g]]=some ⟨.op 0 (qC a b c d e f g (zS (a*b).toNat) (zT (a*b).toNat)),[]⟩:=(by simp only[d33];rw[if_pos hcf]);obtain ⟨i01,i02,i03,⟨i04,i05,i06,_⟩,⟨i07,i08,i09,_⟩⟩:=XO hcf hcond 0 _ _ _ (Nat.zero_le _) rfl;obtain ⟨ws0,hws0⟩:∃ z,(W0 a b c d e f g).ws=z:=⟨_,rfl⟩;have hW0:wzC (W0 a b c d e f g)=[.int .i64 a,.int .i64 b,.int .i64 c,.int .i64 d,.int .i64 e,.int .i64 f,.int .i64 g,.op 0 [.os 0 1 ws0,.int .i64 0,.bot,.bot,.bot,.bot,.bot],.op 0 [.int .u64 0],.os 0 14 []]:=(by rw[← hws0];rfl);rw[hW0]at h43;rw[hws0]at i02;have hTw:=ZZ i02;have hCw:=Z0 i02;obtain ⟨S0,hS0⟩:∃ z,zS (a*b).toNat=z:=⟨_,rfl⟩;obtain ⟨T0,hT0⟩:∃ z,zT (a*b).toNat=z:=⟨_,rfl⟩;rw[hS0]at h44 i05 i06;rw[hT0]at h44 i08 i09;simp only[qC]at h44;have hb0:ZK a b c d e f g els 0=some (ws0,S0,T0):=(by rw[← hws0,← hS0,← hT0];rfl);unfold m5
    repeat' with_reducible (first
     | refine ZR.h ?_ | refine zI ?_
     | (refine VK (mos:=q5_13) hE x5_13 (by kernel_rfl) xe5_13 ?_;intro K hK;rw[x5_13];rw[Ze];simp[Yy,hck,hcf,h43,h44,hTw,hCw,i05,i06,i08,i09,hTe,hCe,d30,d31,d39,d40];rw[Ze];simp[Yu,hck,hcf,h43,h44,hTw,hCw,i05,i06,i08,i09,hTe,hCe,d30,d31,d39,d40];rw[Ze];simp[YB,hck,hcf,h43,h44,hTw,hCw,i05,i06,i08,i09,hTe,hCe,d30,d31,d39,d40];rw[Ze];simp[Yx,hck,hcf,h43,h44,hTw,hCw,i05,i06,i08,i09,hTe,hCe,d30,d31,d39,d40];rw[Ze];simp[Yv,hck,hcf,h43,h44,hTw,hCw,i05,i06,i08,i09,hTe,hCe,d30,d31,d39,d40];rw[Ze];simp[Yz,hck,hcf,h43,h44,hTw,hCw,i05,i06,i08,i09,hTe,hCe,d30,d31,d39,d40];rw[YO];(repeat' (first | refine hK _ _ ?_ | refine And.intro ?_ ?_ | (intro hc;try subst hc)))<;>(try clear hK K))
     | ((first | refine zK hE ?_ | refine zL hE yM ?_);intro K hK;simp[hck,hcf,h43,h44,hTw,hCw,i05,i06,i08,i09,hTe,hCe,d30,d31,d39,d40];(repeat' (first | refine hK _ _ ?_ | refine And.intro ?_ ?_ | (intro hc;try subst hc)))<;>(try clear hK K))
     | (refine zJ (fun hc=>?_) (fun hc=>?_)<;>simp at hc<;>(try subst hc)))
    all_goals (refine YJ (fun (y:Nat×List (List AV)×List (List AV)×List (List AV))=>I9 a b c d e f g els y.1 y.2.1 y.2.2.1 y.2.2.2) (fun y=>y.1≤els.length∧ZK a b c d e f g els y.1=some (y.2.1,y.2.2.1,y.2.2.2)) (fun y=>els.length - y.1) (0,ws0,S0,T0) ⟨Nat.zero_le _,hb0⟩ ?_ ?_)
    ·simp only[I9]
     rw[hS];refine Imp.aut ?_ ?_<;>simp[NLe,ZM,hTw,hCw,i05,i06,i08,i09,hTe,hCe]
    ·clear hTw hCw h43 h44 hW0 hws0 hS0 hT0 hb0 i01 i02 i03 i04 i05 i06 i07 i08 i09 ws0 S0 T0
     intro ⟨k,ws,SS,T⟩ ⟨hk,hb⟩;replace hk:k≤els.length:=hk;replace hb:ZK a b c d e f g els k=some (ws,SS,T):=hb;obtain ⟨hkN,hw,hwl,⟨hSn,hTS,hCS,hS5⟩,⟨hTn,hTT,hCT,hT5⟩⟩:=XO hcf hcond k ws SS T hk hb;have hTw:=ZZ hw;have hCw:=Z0 hw;by_cases hkl:k<els.length
     ·have hkI:(k:Int)<(els.length:Int):=by omega
      have hrb:TJ els[k]=true:=List.all_eq_true.1 hcond _ (List.getElem_mem hkl);obtain ⟨kd,fl,sg,sl,sf,nm,sd,pr,le,un,hrow,hrng⟩:=VN hrb;have hrow2:els[k]?=some [.int .i64 kd,.bool fl,.int .i64 sg,.int .i64 sl,.int .i64 sf,.int .i64 nm,.int .i64 sd,.int .i64 pr,.int .i64 le,.int .i64 un]:=(by rw[List.getElem?_eq_getElem hkl,hrow]);have hgd:els.getD k []=[.int .i64 kd,.bool fl,.int .i64 sg,.int .i64 sl,.int .i64 sf,.int .i64 nm,.int .i64 sd,.int .i64 pr,.int .i64 le,.int .i64 un]:=(by rw[List.getD_eq_getElem?_getD,hrow2];rfl);have hSl:(SS.length:Int)=a*b:=(by rw[hSn];omega);obtain ⟨mxv,hmx⟩:∃ z,(if sl<le then le else sl)=z:=⟨_,rfl⟩;obtain ⟨chk,hchk⟩:∃ z,YT c ⟨nm,sd,pr,le,un⟩ mxv 0=z:=⟨_,rfl⟩;have h48:d37 [.agg [.int .i64 a,.int .i64 b,.int .i64 c,.int .i64 d,.int .i64 e,.int .i64 f,.int .i64 g],.agg [.int .i64 nm,.int .i64 sd,.int .i64 pr,.int .i64 le,.int .i64 un],.int .i64 mxv,.int .i64 0] []=some (.int .i64 chk):=(by rw[← hchk];rfl);have h47:d36 [.int .i64 kd] []=some (.bool (Zt kd)):=rfl;have hl6':d34 [.agg [.int .i64 kd,.bool fl,.int .i64 sg,.int .i64 sl,.int .i64 sf]] []=some (Vi (ZN ⟨kd,fl,sg,sl,sf⟩)):=(by simp only[d34];rw[if_pos (by omega)]);have hl7':d35 [.agg [.int .i64 nm,.int .i64 sd,.int .i64 pr,.int .i64 le,.int .i64 un]] []=some (Vi (Ux ⟨nm,sd,pr,le,un⟩)):=(by simp only[d35];rw[if_pos (by omega)]);have hsucc:ZK a b c d e f g els (k+1)=match okO a b c f g k [.int .i64 kd,.bool fl,.int .i64 sg,.int .i64 sl,.int .i64 sf,.int .i64 nm,.int .i64 sd,.int .i64 pr,.int .i64 le,.int .i64 un] with
       | none=>none
       | some (v,u)=>some ((ws.set (2*k) [.int .u64 v]).set (2*k+1) [.int .u64 u],SS.set k (ordS [.int .i64 kd,.bool fl,.int .i64 sg,.int .i64 sl,.int .i64 sf,.int .i64 nm,.int .i64 sd,.int .i64 pr,.int .i64 le,.int .i64 un]),T.set k (ordT [.int .i64 kd,.bool fl,.int .i64 sg,.int .i64 sl,.int .i64 sf,.int .i64 nm,.int .i64 sd,.int .i64 pr,.int .i64 le,.int .i64 un])):=by
       simp only[ZK,hb,hgd]
       cases okO a b c f g k [.int .i64 kd,.bool fl,.int .i64 sg,.int .i64 sl,.int .i64 sf,.int .i64 nm,.int .i64 sd,.int .i64 pr,.int .i64 le,.int .i64 un] with
       | none=>rfl
       | some p=>rfl
      have hnn:okO a b c f g k [.int .i64 kd,.bool fl,.int .i64 sg,.int .i64 sl,.int .i64 sf,.int .i64 nm,.int .i64 sd,.int .i64 pr,.int .i64 le,.int .i64 un]=none→ZK a b c d e f g els els.length=none:=fun h=>by
       rw[h]at hsucc;have:=xP hsucc (els.length - (k+1))
       rwa [show k+1+(els.length - (k+1))=els.length from by omega]at this
      obtain ⟨v,e1,hl6,hv1,hv2⟩:∃ v e1:Int,d34 [.agg [.int .i64 kd,.bool fl,.int .i64 sg,.int .i64 sl,.int .i64 sf]] []=some (.tup [.int .u64 v,.int .i64 e1])∧(e1=0→ZN ⟨kd,fl,sg,sl,sf⟩=some v)∧(e1≠0→ZN ⟨kd,fl,sg,sl,sf⟩=none):=by
       cases h:ZN ⟨kd,fl,sg,sl,sf⟩ with
       | none=>exact ⟨0,5,by rw[hl6',h];rfl,by simp,by simp⟩
       | some v=>exact ⟨v,0,by rw[hl6',h];rfl,by simp,by simp⟩
      obtain ⟨u,e2,hl7,hu1,hu2⟩:∃ v e1:Int,d35 [.agg [.int .i64 nm,.int .i64 sd,.int .i64 pr,.int .i64 le,.int .i64 un]] []=some (.tup [.int .u64 v,.int .i64 e1])∧(e1=0→Ux ⟨nm,sd,pr,le,un⟩=some v)∧(e1≠0→Ux ⟨nm,sd,pr,le,un⟩=none):=by
       cases h:Ux ⟨nm,sd,pr,le,un⟩ with
       | none=>exact ⟨0,5,by rw[hl7',h];rfl,by simp,by simp⟩
       | some v=>exact ⟨v,0,by rw[hl7',h];rfl,by simp,by simp⟩
      clear hl6' hl7';have hno1:¬ (k:Int)<a*b→ZK a b c d e f g els els.length=none:=fun hh=>hnn (by
       simp only[okO];split
       ·rw[if_neg (fun h=>hh h.1)]
       ·rfl)
      by_cases h1:(k:Int)<a*b
      case neg=>exact b9_1 hE hS hTe hCe hkI hrow2 hSl hmx h48 h47 hl6 hl7 (hno1 h1) (by omega)
      have p1:¬ a*b≤(k:Int):=(by omega);by_cases he1:e1=0
      case neg=>exact b9_2 hE hS hTe hCe hkI hrow2 hSl hmx h48 h47 hl6 hl7 (hnn (by simp only[okO,hv2 he1])) p1 he1
      subst he1;have hwS:=hv1 rfl;by_cases he2:e2=0
      case neg=>exact b9_3 hE hS hTe hCe hkI hrow2 hSl hmx h48 h47 hl6 hl7 (hnn (by simp only[okO,hu2 he2,hwS])) p1 he2
      subst he2;have hwT:=hu1 rfl;have hv:=UQ hwS;have hu:=Zaw hwT;have hno:¬ ((k:Int)<a*b∧1≤sg∧sg≤g∧1≤sl∧sf<f∧(Zt kd=true∨5≤kd)∧fl=false∧chk=0)→ZK a b c d e f g els els.length=none:=fun hh=>hnn (by
       simp only[okO,hwS,hwT,hmx,hchk];rw[if_neg hh])
      by_cases h2:1≤sg
      case neg=>exact b9_4 hE hS hTe hCe hkI hrow2 hSl hmx h48 h47 hl6 hl7 (hno fun h=>h2 h.2.1) p1 (by omega)
      have p2:¬ sg<1:=(by omega);by_cases h3:sg≤g
      case neg=>exact b9_5 hE hS hTe hCe hkI hrow2 hSl hmx h48 h47 hl6 hl7 (hno fun h=>h3 h.2.2.1) p1 p2 (by omega)
      have p3:¬ g<sg:=(by omega);by_cases h4:1≤sl
      case neg=>exact b9_6 hE hS hTe hCe hkI hrow2 hSl hmx h48 h47 hl6 hl7 (hno fun h=>h4 h.2.2.2.1) p1 p2 p3 (by omega)
      have p4:¬ sl<1:=(by omega);by_cases h5:sf<f
      case neg=>exact b9_7 hE hS hTe hCe hkI hrow2 hSl hmx h48 h47 hl6 hl7 (hno fun h=>h5 h.2.2.2.2.1) p1 p2 p3 p4 (by omega)
      have p5:¬ f≤sf:=(by omega);by_cases h6:Zt kd=true∨5≤kd
      case neg =>
       have l2:Zt kd=false:=by
        cases h:Zt kd
        ·rfl
        ·exact absurd (.inl h) h6
       exact b9_8 hE hS hTe hCe hkI hrow2 hSl hmx h48 h47 hl6 hl7 (hno fun h=>h6 h.2.2.2.2.2.1) p1 p2 p3 p4 p5 l2 (by have:=fun h=>h6 (.inr h);omega)
      cases fl
      case true =>
       have hnone:=hno fun h=>by simp at h
       by_cases l1:Zt kd=true
       ·exact b9_9a hE hS hTe hCe hkI hrow2 hSl hmx h48 h47 hl6 hl7 hnone p1 p2 p3 p4 p5 l1
       ·exact b9_9b hE hS hTe hCe hkI hrow2 hSl hmx h48 h47 hl6 hl7 hnone p1 p2 p3 p4 p5 (by simpa using l1) (by have:=h6.resolve_left l1;omega)
      by_cases h8:chk=0
      case neg =>
       have hnone:=hno fun h=>h8 h.2.2.2.2.2.2.2;by_cases l1:Zt kd=true
       ·exact Zhs hE hS hTe hCe hkI hrow2 hSl hmx h48 h47 hl6 hl7 hnone p1 p2 p3 p4 p5 l1 h8
       ·exact Zh9 hE hS hTe hCe hkI hrow2 hSl hmx h48 h47 hl6 hl7 hnone p1 p2 p3 p4 p5 (by simpa using l1) (by have:=h6.resolve_left l1;omega) h8
      have hyes:ZK a b c d e f g els (k+1)=some ((ws.set (2*k) [.int .u64 v]).set (2*k+1) [.int .u64 u],SS.set k [.int .i64 kd,.bool false,.int .i64 sg,.int .i64 sl,.int .i64 sf],T.set k [.int .i64 nm,.int .i64 sd,.int .i64 pr,.int .i64 le,.int .i64 un]):=by
       rw[hsucc];simp only[okO,hwS,hwT,hmx,hchk];rw[if_pos ⟨h1,h2,h3,h4,h5,h6,by first|trivial|rfl,h8⟩]
       rfl
      clear hsucc hnn hno hno1;have e1:(2*(k:Int)).toNat=2*k:=(by omega);have e2:(2*(k:Int)+1).toNat=2*k+1:=(by omega);have hkW:2*(k:Int)<ws.length:=(by rw[hwl];omega);have hkW2:2*(k:Int)+1<ws.length:=(by rw[hwl];omega);obtain ⟨ws1,hws1⟩:∃ z,ws.set (2*k) [AV.int .u64 v]=z:=⟨_,rfl⟩;obtain ⟨ws2,hws2⟩:∃ z,ws1.set (2*k+1) [AV.int .u64 u]=z:=⟨_,rfl⟩;have hi1:ws1.all isW=true:=(by rw[← hws1];exact Tl hw hv.1 hv.2 _);have hi2:ws2.all isW=true:=(by rw[← hws2];exact Tl hi1 hu.1 hu.2 _);have hl1:ws1.length=ws.length:=(by rw[← hws1,List.length_set]);have h49a:∀ t1 t2,d38 [.op t1 [.os t2 1 ws,.int .i64 (2*(k:Int)),.bot,.bot,.bot,.bot,.bot],.int .i64 (2*(k:Int)),.int .u64 v]=some ⟨.raw .nilIface,[.cells 0 [.os 0 1 ws1,.int .i64 (2*(k:Int)+1),.bot,.bot,.bot,.bot,.bot]]⟩:=fun t1 t2=>by
       simp only[d38];rw[if_pos ⟨hw,by omega,by omega,hv.1,hv.2⟩,if_neg (by omega),if_neg (by omega),e1,hws1]
      have h49b:∀ t1 t2,d38 [.op t1 [.os t2 1 ws1,.int .i64 (2*(k:Int)+1),.bot,.bot,.bot,.bot,.bot],.int .i64 (2*(k:Int)+1),.int .u64 u]=some ⟨.raw .nilIface,[.cells 0 [.os 0 1 ws2,.int .i64 (2*(k:Int)+1+1),.bot,.bot,.bot,.bot,.bot]]⟩:=fun t1 t2=>by
       simp only[d38];rw[if_pos ⟨hi1,by omega,by omega,hu.1,hu.2⟩,if_neg (by omega),if_neg (by omega),e2,hws2]
      rw[hws1,hws2]at hyes;have tk1:k<SS.length:=(by rw[hSn];omega);have tk2:k<T.length:=(by rw[hTn];omega);have tk3:(k:Int)≤1000:=(by omega);by_cases l1:Zt kd=true
      ·exact b9_a hE hS hTe hCe hkI hrow2 hSl hmx h48 h47 hl6 hl7 hcf hkl hTw hCw hTS hCS hTT hCT (ZZ hi1) (Z0 hi1) (ZZ hi2) (Z0 hi2) tk1 tk2 tk3 hS5 hT5 h49a h49b hyes p1 p2 p3 p4 p5 l1 h8
      ·exact b9_b hE hS hTe hCe hkI hrow2 hSl hmx h48 h47 hl6 hl7 hcf hkl hTw hCw hTS hCS hTT hCT (ZZ hi1) (Z0 hi1) (ZZ hi2) (Z0 hi2) tk1 tk2 tk3 hS5 hT5 h49a h49b hyes p1 p2 p3 p4 p5 (by simpa using l1) (by have:=h6.resolve_left l1;omega) h8
     ·have hke:k=els.length:=by omega
      subst hke;simp only[I9];have hkI:¬ ((els.length:Int)<(els.length:Int)):=by omega
      repeat' with_reducible (first
       | refine ZR.h ?_ | refine zI ?_
       | (refine VK (mos:=q5_13) hE x5_13 (by kernel_rfl) xe5_13 ?_;intro K hK;rw[x5_13];rw[Ze];simp[Yy,hkI,d30,d31,d39,d40];rw[Ze];simp[Yu,hkI,d30,d31,d39,d40];rw[Ze];simp[YB,hkI,d30,d31,d39,d40];rw[Ze];simp[Yx,hkI,d30,d31,d39,d40];rw[Ze];simp[Yv,hkI,d30,d31,d39,d40];rw[Ze];simp[Yz,hkI,d30,d31,d39,d40];rw[YO];(repeat' (first | refine hK _ _ ?_ | refine And.intro ?_ ?_ | (intro hc;try subst hc)))<;>(try clear hK K))
       | ((first | refine zK hE ?_ | refine zL hE yM ?_);intro K hK;simp[hkI,d30,d31,d39,d40];(repeat' (first | refine hK _ _ ?_ | refine And.intro ?_ ?_ | (intro hc;try subst hc)))<;>(try clear hK K))
       | (refine zJ (fun hc=>?_) (fun hc=>?_)<;>simp at hc<;>(try subst hc)))
      all_goals first|(simp;done)|((try simp[hb,YV,wzC,qC,hTw,hCw,hTS,hCS,hTT,hCT,hTe,hCe]);refine Imp.aut ?_ ?_<;>simp[NLe,ZM,hTw,hCw,hTS,hCS,hTT,hCT,hTe,hCe,hb,YV,wzC,qC])
   ·rw[if_neg hcf]
    have hck:Xn a b c d e f g≠-1:=fun h=>hcf ((UL a b c d e f g).mp h);have hcf2:XX a b c d e f g=false:=(by simpa using hcf);unfold m5
    repeat' with_reducible (first
     | refine ZR.h ?_ | refine zI ?_
     | (refine VK (mos:=q5_13) hE x5_13 (by kernel_rfl) xe5_13 ?_;intro K hK;rw[x5_13];rw[Ze];simp[Yy,hck,hcf2,hTe,hCe,d30,d31,d39,d40];rw[Ze];simp[Yu,hck,hcf2,hTe,hCe,d30,d31,d39,d40];rw[Ze];simp[YB,hck,hcf2,hTe,hCe,d30,d31,d39,d40];rw[Ze];simp[Yx,hck,hcf2,hTe,hCe,d30,d31,d39,d40];rw[Ze];simp[Yv,hck,hcf2,hTe,hCe,d30,d31,d39,d40];rw[Ze];simp[Yz,hck,hcf2,hTe,hCe,d30,d31,d39,d40];rw[YO];(repeat' (first | refine hK _ _ ?_ | refine And.intro ?_ ?_ | (intro hc;try subst hc)))<;>(try clear hK K))
     | ((first | refine zK hE ?_ | refine zL hE yM ?_);intro K hK;simp[hck,hcf2,hTe,hCe,d30,d31,d39,d40];(repeat' (first | refine hK _ _ ?_ | refine And.intro ?_ ?_ | (intro hc;try subst hc)))<;>(try clear hK K))
     | (refine zJ (fun hc=>?_) (fun hc=>?_)<;>simp at hc<;>(try subst hc)))
    all_goals first|(simp;done)|(simp at *;omega)|((try simp[hTe,hCe]);refine Imp.aut ?_ ?_<;>simp[NLe,hTe,hCe])
  ·cases h
 ·cases h
end Go.W
