/- A part of the proofs about the pair's laws (PsV4). -/
import Derived.Test.YtidbbnkpglggdaaPsV0
namespace Go.W
open Go.Proofs
set_option linter.unusedSimpArgs false
set_option linter.unusedVariables false
set_option maxHeartbeats 8000000
attribute [local irreducible] Wm
attribute [local simp] nmap lkp mkPl prs prsL prT ddL idL CRenL CRen Ren RenL NObj.none CRenLL
set_option maxRecDepth 8000
theorem b9_a {w0:World} {S:Sc} {a b c d e f g:Int} {t:Nat} {els:List (List AV)} {k:Nat} {ws SS T:List (List AV)} (hE:SoundAll Try.prog (EL [(42,nestS [] d42 ok42),(27,nestS [] d27 ok27),(43,nestS [] d43 ok43),(44,nestS [] d44 ok44),(45,rdS d45 ok45),(46,rdS d46 ok46),(47,rdS d47 ok47),(48,rdS d48 ok48),(50,rdS d50 ok50),(51,rdS d51 ok51),(49,nestS [(7,true)] d49 ok49)])) (hS:S.m=(oA [(10,false)] [.agg [.int .i64 a,.int .i64 b,.int .i64 c,.int .i64 d,.int .i64 e,.int .i64 f,.int .i64 g],.os t 10 els]).length) (hTe:t0LL els=els) (hCe:clLL els=true) (hkI:(k:Int)<(els.length:Int)) {kd:Int} {sg sl sf nm sd pr le un mxv chk:Int} (hrow2:els[k]?=some [.int .i64 kd,.bool false,.int .i64 sg,.int .i64 sl,.int .i64 sf,.int .i64 nm,.int .i64 sd,.int .i64 pr,.int .i64 le,.int .i64 un]) (hSl:(SS.length:Int)=a*b) (hmx:(if sl<le then le else sl)=mxv)
  (h48:d48 [.agg [.int .i64 a,.int .i64 b,.int .i64 c,.int .i64 d,.int .i64 e,.int .i64 f,.int .i64 g],.agg [.int .i64 nm,.int .i64 sd,.int .i64 pr,.int .i64 le,.int .i64 un],.int .i64 mxv,.int .i64 0] []=some (.int .i64 chk)) (h47:d47 [.int .i64 kd] []=some (.bool (looseZ kd))) {v u:Int} (hl6:d45 [.agg [.int .i64 kd,.bool false,.int .i64 sg,.int .i64 sl,.int .i64 sf]] []=some (.tup [.int .u64 v,.int .i64 0])) (hl7:d46 [.agg [.int .i64 nm,.int .i64 sd,.int .i64 pr,.int .i64 le,.int .i64 un]] []=some (.tup [.int .u64 u,.int .i64 0])) (hcf:cfgB a b c d e f g=true) (hkl:k<els.length) (hTw:t0LL ws=ws) (hCw:clLL ws=true) (hTS:t0LL SS=SS) (hCS:clLL SS=true) (hTT:t0LL T=T) (hCT:clLL T=true) {ws1 ws2:List (List AV)} (hTw1:t0LL ws1=ws1) (hCw1:clLL ws1=true) (hTw2:t0LL ws2=ws2) (hCw2:clLL ws2=true) (hkS:k<SS.length) (hkT:k<T.length) (hk9:(k:Int)≤1000) (hS5:∀ c,c∈SS→c.length=5) (hT5:∀ c,c∈T→c.length=5)
  (h49a:∀ t1 t2,d49 [.op t1 [.os t2 1 ws,.int .i64 (2*(k:Int)),.bot,.bot,.bot,.bot,.bot],.int .i64 (2*(k:Int)),.int .u64 v]=some ⟨.raw .nilIface,[.cells 0 [.os 0 1 ws1,.int .i64 (2*(k:Int)+1),.bot,.bot,.bot,.bot,.bot]]⟩)
  (h49b:∀ t1 t2,d49 [.op t1 [.os t2 1 ws1,.int .i64 (2*(k:Int)+1),.bot,.bot,.bot,.bot,.bot],.int .i64 (2*(k:Int)+1),.int .u64 u]=some ⟨.raw .nilIface,[.cells 0 [.os 0 1 ws2,.int .i64 (2*(k:Int)+1+1),.bot,.bot,.bot,.bot,.bot]]⟩)
  (hyes:bothZ a b c d e f g els (k+1)=some (ws2,SS.set k [.int .i64 kd,.bool false,.int .i64 sg,.int .i64 sl,.int .i64 sf],T.set k [.int .i64 nm,.int .i64 sd,.int .i64 pr,.int .i64 le,.int .i64 un])) (p1:¬ a*b≤(k:Int)) (p2:¬ sg<1) (p3:¬ g<sg) (p4:¬ sl<1) (p5:¬ f≤sf) (l1:looseZ kd=true) (h8:chk=0):L9 w0 S a b c d e f g t els k ws SS T:=by
 unfold L9 B9
 simp only[I9,P9]
 have hk0:0≤(k:Int):=by omega
 have hS6:=hS5 _ (List.getElem_mem hkS)
 have hT6:=hT5 _ (List.getElem_mem hkT)
 have hS7:List.drop 5 SS[k]=[]:=List.drop_eq_nil_of_le (by omega)
 have hT7:List.drop 5 T[k]=[]:=List.drop_eq_nil_of_le (by omega)
 have hka:(k:Int)<a*b:=by omega
 have hkTI:(k:Int)<(T.length:Int):=by omega
 have ww:IntKind.wrap .i64 ((k:Int)+1)=(k:Int)+1:=wrap_in (by omega) (by omega)
 have hTS2:=set_t0 (c:=[.int .i64 kd,.bool false,.int .i64 sg,.int .i64 sl,.int .i64 sf]) rfl k hTS
 have hCS2:=set_cl (c:=[.int .i64 kd,.bool false,.int .i64 sg,.int .i64 sl,.int .i64 sf]) rfl k hCS
 have hTT2:=set_t0 (c:=[.int .i64 nm,.int .i64 sd,.int .i64 pr,.int .i64 le,.int .i64 un]) rfl k hTT
 have hCT2:=set_cl (c:=[.int .i64 nm,.int .i64 sd,.int .i64 pr,.int .i64 le,.int .i64 un]) rfl k hCT
 have e9:2*(((k+1:Nat):Int))=2*(k:Int)+1+1:=by omega
 repeat' with_reducible (first
  | refine ZR.h ?_ | refine zI (by decide) ?_
  | (refine wregX (mos:=q9_13) hE x9_13 (by kernel_rfl) xe9_13 ?_;intro K hK;rw[x9_13];rw[ecX_cons];simp[q9_13s0,hkI,hrow2,hl6,hl7,h47,h48,hSl,hmx,p1,p2,p3,p4,p5,l1,h8,hcf,hk0,hk9,h49a,h49b,hTw,hCw,hTw1,hCw1,hTw2,hCw2,hTS,hCS,hTT,hCT,hkS,hkT,ww,hka,hkTI,hS6,hT6,hS7,hT7,d42,d27,d50,d51];rw[ecX_cons];simp[q9_13s1,hkI,hrow2,hl6,hl7,h47,h48,hSl,hmx,p1,p2,p3,p4,p5,l1,h8,hcf,hk0,hk9,h49a,h49b,hTw,hCw,hTw1,hCw1,hTw2,hCw2,hTS,hCS,hTT,hCT,hkS,hkT,ww,hka,hkTI,hS6,hT6,hS7,hT7,d42,d27,d50,d51];rw[ecX_cons];simp[q9_13s2,hkI,hrow2,hl6,hl7,h47,h48,hSl,hmx,p1,p2,p3,p4,p5,l1,h8,hcf,hk0,hk9,h49a,h49b,hTw,hCw,hTw1,hCw1,hTw2,hCw2,hTS,hCS,hTT,hCT,hkS,hkT,ww,hka,hkTI,hS6,hT6,hS7,hT7,d42,d27,d50,d51];rw[ecX_cons];simp[q9_13s3,hkI,hrow2,hl6,hl7,h47,h48,hSl,hmx,p1,p2,p3,p4,p5,l1,h8,hcf,hk0,hk9,h49a,h49b,hTw,hCw,hTw1,hCw1,hTw2,hCw2,hTS,hCS,hTT,hCT,hkS,hkT,ww,hka,hkTI,hS6,hT6,hS7,hT7,d42,d27,d50,d51];rw[ecX_cons];simp[q9_13s4,hkI,hrow2,hl6,hl7,h47,h48,hSl,hmx,p1,p2,p3,p4,p5,l1,h8,hcf,hk0,hk9,h49a,h49b,hTw,hCw,hTw1,hCw1,hTw2,hCw2,hTS,hCS,hTT,hCT,hkS,hkT,ww,hka,hkTI,hS6,hT6,hS7,hT7,d42,d27,d50,d51];rw[ecX_cons];simp[q9_13s5,hkI,hrow2,hl6,hl7,h47,h48,hSl,hmx,p1,p2,p3,p4,p5,l1,h8,hcf,hk0,hk9,h49a,h49b,hTw,hCw,hTw1,hCw1,hTw2,hCw2,hTS,hCS,hTT,hCT,hkS,hkT,ww,hka,hkTI,hS6,hT6,hS7,hT7,d42,d27,d50,d51];rw[ecX_nil];(repeat' (first | refine hK _ _ ?_ | refine And.intro ?_ ?_ | (intro hc;try subst hc)))<;>(try clear hK K))
  | ((first | refine zK hE ?_ | refine zL hE mixT ?_);intro K hK;simp[KR.ks,KD.ks,KD.cl,q9_0,q9_1,q9_2,q9_3,q9_4,q9_5,q9_6,q9_7,q9_8,q9_9,q9_10,q9_11,q9_12,q9_14,q9_15,q9_16,q9_17,q9_18,q9_19,hkI,hrow2,hl6,hl7,h47,h48,hSl,hmx,p1,p2,p3,p4,p5,l1,h8,hcf,hk0,hk9,h49a,h49b,hTw,hCw,hTw1,hCw1,hTw2,hCw2,hTS,hCS,hTT,hCT,hkS,hkT,ww,hka,hkTI,hS6,hT6,hS7,hT7,d42,d27,d50,d51];(repeat' (first | refine hK _ _ ?_ | refine And.intro ?_ ?_ | (intro hc;try subst hc)))<;>(try clear hK K))
  | (refine zJ (b:=_) (by with_unfolding_all rfl) (fun hc=>?_) (fun hc=>?_)<;>simp at hc<;>(try subst hc)))
 all_goals (show loopK _ _ _ _ _ _ _ _)
 all_goals refine ⟨(k+1,ws2,SS.set k [.int .i64 kd,.bool false,.int .i64 sg,.int .i64 sl,.int .i64 sf],T.set k [.int .i64 nm,.int .i64 sd,.int .i64 pr,.int .i64 le,.int .i64 un]),⟨hkl,hyes⟩,Nat.sub_lt_sub_left hkl (Nat.lt_succ_self k),?_⟩
 all_goals simp only[I9,e9]
 all_goals rw[hS]
 all_goals (refine Imp.auto (by kernel_rfl) ?_ ?_<;>simp[NLe,mkPlX,hTw,hCw,hTS,hCS,hTT,hCT,hTe,hCe,hTw2,hCw2,hTS2,hCS2,hTT2,hCT2])
theorem b9_b {w0:World} {S:Sc} {a b c d e f g:Int} {t:Nat} {els:List (List AV)} {k:Nat} {ws SS T:List (List AV)} (hE:SoundAll Try.prog (EL [(42,nestS [] d42 ok42),(27,nestS [] d27 ok27),(43,nestS [] d43 ok43),(44,nestS [] d44 ok44),(45,rdS d45 ok45),(46,rdS d46 ok46),(47,rdS d47 ok47),(48,rdS d48 ok48),(50,rdS d50 ok50),(51,rdS d51 ok51),(49,nestS [(7,true)] d49 ok49)])) (hS:S.m=(oA [(10,false)] [.agg [.int .i64 a,.int .i64 b,.int .i64 c,.int .i64 d,.int .i64 e,.int .i64 f,.int .i64 g],.os t 10 els]).length) (hTe:t0LL els=els) (hCe:clLL els=true) (hkI:(k:Int)<(els.length:Int)) {kd:Int} {sg sl sf nm sd pr le un mxv chk:Int} (hrow2:els[k]?=some [.int .i64 kd,.bool false,.int .i64 sg,.int .i64 sl,.int .i64 sf,.int .i64 nm,.int .i64 sd,.int .i64 pr,.int .i64 le,.int .i64 un]) (hSl:(SS.length:Int)=a*b) (hmx:(if sl<le then le else sl)=mxv)
  (h48:d48 [.agg [.int .i64 a,.int .i64 b,.int .i64 c,.int .i64 d,.int .i64 e,.int .i64 f,.int .i64 g],.agg [.int .i64 nm,.int .i64 sd,.int .i64 pr,.int .i64 le,.int .i64 un],.int .i64 mxv,.int .i64 0] []=some (.int .i64 chk)) (h47:d47 [.int .i64 kd] []=some (.bool (looseZ kd))) {v u:Int} (hl6:d45 [.agg [.int .i64 kd,.bool false,.int .i64 sg,.int .i64 sl,.int .i64 sf]] []=some (.tup [.int .u64 v,.int .i64 0])) (hl7:d46 [.agg [.int .i64 nm,.int .i64 sd,.int .i64 pr,.int .i64 le,.int .i64 un]] []=some (.tup [.int .u64 u,.int .i64 0])) (hcf:cfgB a b c d e f g=true) (hkl:k<els.length) (hTw:t0LL ws=ws) (hCw:clLL ws=true) (hTS:t0LL SS=SS) (hCS:clLL SS=true) (hTT:t0LL T=T) (hCT:clLL T=true) {ws1 ws2:List (List AV)} (hTw1:t0LL ws1=ws1) (hCw1:clLL ws1=true) (hTw2:t0LL ws2=ws2) (hCw2:clLL ws2=true) (hkS:k<SS.length) (hkT:k<T.length) (hk9:(k:Int)≤1000) (hS5:∀ c,c∈SS→c.length=5) (hT5:∀ c,c∈T→c.length=5)
  (h49a:∀ t1 t2,d49 [.op t1 [.os t2 1 ws,.int .i64 (2*(k:Int)),.bot,.bot,.bot,.bot,.bot],.int .i64 (2*(k:Int)),.int .u64 v]=some ⟨.raw .nilIface,[.cells 0 [.os 0 1 ws1,.int .i64 (2*(k:Int)+1),.bot,.bot,.bot,.bot,.bot]]⟩)
  (h49b:∀ t1 t2,d49 [.op t1 [.os t2 1 ws1,.int .i64 (2*(k:Int)+1),.bot,.bot,.bot,.bot,.bot],.int .i64 (2*(k:Int)+1),.int .u64 u]=some ⟨.raw .nilIface,[.cells 0 [.os 0 1 ws2,.int .i64 (2*(k:Int)+1+1),.bot,.bot,.bot,.bot,.bot]]⟩)
  (hyes:bothZ a b c d e f g els (k+1)=some (ws2,SS.set k [.int .i64 kd,.bool false,.int .i64 sg,.int .i64 sl,.int .i64 sf],T.set k [.int .i64 nm,.int .i64 sd,.int .i64 pr,.int .i64 le,.int .i64 un])) (p1:¬ a*b≤(k:Int)) (p2:¬ sg<1) (p3:¬ g<sg) (p4:¬ sl<1) (p5:¬ f≤sf) (l2:looseZ kd=false) (l4:¬ kd<5) (h8:chk=0):L9 w0 S a b c d e f g t els k ws SS T:=by
 unfold L9 B9
 simp only[I9,P9]
 have hk0:0≤(k:Int):=by omega
 have hS6:=hS5 _ (List.getElem_mem hkS)
 have hT6:=hT5 _ (List.getElem_mem hkT)
 have hS7:List.drop 5 SS[k]=[]:=List.drop_eq_nil_of_le (by omega)
 have hT7:List.drop 5 T[k]=[]:=List.drop_eq_nil_of_le (by omega)
 have hka:(k:Int)<a*b:=by omega
 have hkTI:(k:Int)<(T.length:Int):=by omega
 have ww:IntKind.wrap .i64 ((k:Int)+1)=(k:Int)+1:=wrap_in (by omega) (by omega)
 have hTS2:=set_t0 (c:=[.int .i64 kd,.bool false,.int .i64 sg,.int .i64 sl,.int .i64 sf]) rfl k hTS
 have hCS2:=set_cl (c:=[.int .i64 kd,.bool false,.int .i64 sg,.int .i64 sl,.int .i64 sf]) rfl k hCS
 have hTT2:=set_t0 (c:=[.int .i64 nm,.int .i64 sd,.int .i64 pr,.int .i64 le,.int .i64 un]) rfl k hTT
 have hCT2:=set_cl (c:=[.int .i64 nm,.int .i64 sd,.int .i64 pr,.int .i64 le,.int .i64 un]) rfl k hCT
 have e9:2*(((k+1:Nat):Int))=2*(k:Int)+1+1:=by omega
 repeat' with_reducible (first
  | refine ZR.h ?_ | refine zI (by decide) ?_
  | (refine wregX (mos:=q9_13) hE x9_13 (by kernel_rfl) xe9_13 ?_;intro K hK;rw[x9_13];rw[ecX_cons];simp[q9_13s0,hkI,hrow2,hl6,hl7,h47,h48,hSl,hmx,p1,p2,p3,p4,p5,l2,l4,h8,hcf,hk0,hk9,h49a,h49b,hTw,hCw,hTw1,hCw1,hTw2,hCw2,hTS,hCS,hTT,hCT,hkS,hkT,ww,hka,hkTI,hS6,hT6,hS7,hT7,d42,d27,d50,d51];rw[ecX_cons];simp[q9_13s1,hkI,hrow2,hl6,hl7,h47,h48,hSl,hmx,p1,p2,p3,p4,p5,l2,l4,h8,hcf,hk0,hk9,h49a,h49b,hTw,hCw,hTw1,hCw1,hTw2,hCw2,hTS,hCS,hTT,hCT,hkS,hkT,ww,hka,hkTI,hS6,hT6,hS7,hT7,d42,d27,d50,d51];rw[ecX_cons];simp[q9_13s2,hkI,hrow2,hl6,hl7,h47,h48,hSl,hmx,p1,p2,p3,p4,p5,l2,l4,h8,hcf,hk0,hk9,h49a,h49b,hTw,hCw,hTw1,hCw1,hTw2,hCw2,hTS,hCS,hTT,hCT,hkS,hkT,ww,hka,hkTI,hS6,hT6,hS7,hT7,d42,d27,d50,d51];rw[ecX_cons];simp[q9_13s3,hkI,hrow2,hl6,hl7,h47,h48,hSl,hmx,p1,p2,p3,p4,p5,l2,l4,h8,hcf,hk0,hk9,h49a,h49b,hTw,hCw,hTw1,hCw1,hTw2,hCw2,hTS,hCS,hTT,hCT,hkS,hkT,ww,hka,hkTI,hS6,hT6,hS7,hT7,d42,d27,d50,d51];rw[ecX_cons];simp[q9_13s4,hkI,hrow2,hl6,hl7,h47,h48,hSl,hmx,p1,p2,p3,p4,p5,l2,l4,h8,hcf,hk0,hk9,h49a,h49b,hTw,hCw,hTw1,hCw1,hTw2,hCw2,hTS,hCS,hTT,hCT,hkS,hkT,ww,hka,hkTI,hS6,hT6,hS7,hT7,d42,d27,d50,d51];rw[ecX_cons];simp[q9_13s5,hkI,hrow2,hl6,hl7,h47,h48,hSl,hmx,p1,p2,p3,p4,p5,l2,l4,h8,hcf,hk0,hk9,h49a,h49b,hTw,hCw,hTw1,hCw1,hTw2,hCw2,hTS,hCS,hTT,hCT,hkS,hkT,ww,hka,hkTI,hS6,hT6,hS7,hT7,d42,d27,d50,d51];rw[ecX_nil];(repeat' (first | refine hK _ _ ?_ | refine And.intro ?_ ?_ | (intro hc;try subst hc)))<;>(try clear hK K))
  | ((first | refine zK hE ?_ | refine zL hE mixT ?_);intro K hK;simp[KR.ks,KD.ks,KD.cl,q9_0,q9_1,q9_2,q9_3,q9_4,q9_5,q9_6,q9_7,q9_8,q9_9,q9_10,q9_11,q9_12,q9_14,q9_15,q9_16,q9_17,q9_18,q9_19,hkI,hrow2,hl6,hl7,h47,h48,hSl,hmx,p1,p2,p3,p4,p5,l2,l4,h8,hcf,hk0,hk9,h49a,h49b,hTw,hCw,hTw1,hCw1,hTw2,hCw2,hTS,hCS,hTT,hCT,hkS,hkT,ww,hka,hkTI,hS6,hT6,hS7,hT7,d42,d27,d50,d51];(repeat' (first | refine hK _ _ ?_ | refine And.intro ?_ ?_ | (intro hc;try subst hc)))<;>(try clear hK K))
  | (refine zJ (b:=_) (by with_unfolding_all rfl) (fun hc=>?_) (fun hc=>?_)<;>simp at hc<;>(try subst hc)))
 all_goals (show loopK _ _ _ _ _ _ _ _)
 all_goals refine ⟨(k+1,ws2,SS.set k [.int .i64 kd,.bool false,.int .i64 sg,.int .i64 sl,.int .i64 sf],T.set k [.int .i64 nm,.int .i64 sd,.int .i64 pr,.int .i64 le,.int .i64 un]),⟨hkl,hyes⟩,Nat.sub_lt_sub_left hkl (Nat.lt_succ_self k),?_⟩
 all_goals simp only[I9,e9]
 all_goals rw[hS]
 all_goals (refine Imp.auto (by kernel_rfl) ?_ ?_<;>simp[NLe,mkPlX,hTw,hCw,hTS,hCS,hTT,hCT,hTe,hCe,hTw2,hCw2,hTS2,hCS2,hTT2,hCT2])
end Go.W

