/- An evaluator of resolved code: a trie by numbers, states, what an operation and what code come to. -/
import Derived.Test.YtidbbnkpglggdaaGreatPyE
import Derived.Test.YtidbbnkpglggdaaGreatWcA
import Derived.LoopN
namespace Go.W
open Go.Proofs
set_option linter.unusedSimpArgs false
set_option linter.unusedVariables false
set_option maxHeartbeats 20000000
set_option maxRecDepth 100000
attribute [local irreducible] Wm WmA
attribute [local simp] YP lkp Vq prs V9 prT ddL idL Yy Ue Ren Ve NObj.none ZT
theorem s5:Sound Tryz.prog 5 (Zm [(10,false)] d5 ok5):=by
 refine Zi (ac:=?ac) (res:=?res) Tryz.func5 (by kernel_rfl) (ha:=?ha) (hk:=?hk) (hok:=ok5) (fun xs a h=>?_) fun xs a h w0 S hS=>?_
 case ha=>conv=>lhs;cbv
 case hk=>kernel_rfl
 ·unfold d5 at h
  (repeat' (split at h))<;>first|(cases h;done)|exact Nat.le_of_ble_eq_true rfl
 unfold d5 at h;split at h
 ·split at h
  ·rename_i a b c d e f g u els hcond
   injection h with h;subst h;have hE:Zd Tryz.prog (EL [(30,Zm [] d30 ok30),(31,Zm [] d31 ok31),(32,Zm [] d32 ok32),(33,Zm [] d33 ok33),(34,rdS d34 ok34),(35,rdS d35 ok35),(36,rdS d36 ok36),(37,rdS d37 ok37),(39,rdS d39 ok39),(40,rdS d40 ok40),(38,Zm [(7,true)] d38 ok38)]):=Ze (by simp only[List.mem_cons,List.not_mem_nil,or_false,forall_eq_or_imp,forall_eq];exact ⟨s30,s31,s32,s33,s34,s35,s36,s37,s39,s40,s38⟩);have hTe:=ZaQ hcond;have hCe:=Zba hcond;by_cases hcf:X7 a b c d e f g=true
   ·rw[if_pos hcf]
    have hc:=ZE hcf;have hall:=ZB hcf;have hwd:=Yt (f:=f) (g:=g) (show 0≤a*b by omega) hall.2 (by omega) (by omega);have hck:Xs a b c d e f g=-1:=(Tg a b c d e f g).mpr hcf;have h43:d32 [.agg [.int .i64 a,.int .i64 b,.int .i64 c,.int .i64 d,.int .i64 e,.int .i64 f,.int .i64 g]]=some ⟨.tup [.op 0 (wzC (W0 a b c d e f g)),.raw .nilIface],[]⟩:=(by simp only[d32];rw[if_pos hcf]);have h44:d33 [.agg [.int .i64 a,.int .i64 b,.int .i64 c,.int .i64 d,.int .i64 e,.int .i64 f,.int .i64 g]]=some ⟨.op 0 (qC a b c d e f g (zS (a*b).toNat) (zT (a*b).toNat)),[]⟩:=(by simp only[d33];rw[if_pos hcf]);obtain ⟨i01,i02,i03,⟨i04,i05,i06,_⟩,⟨i07,i08,i09,_⟩⟩:=XR hcf hcond 0 _ _ _ (Nat.zero_le _) rfl;obtain ⟨ws0,hws0⟩:∃ z,(W0 a b c d e f g).ws=z:=⟨_,rfl⟩;have hW0:wzC (W0 a b c d e f g)=[.int .i64 a,.int .i64 b,.int .i64 c,.int .i64 d,.int .i64 e,.int .i64 f,.int .i64 g,.op 0 [.os 0 1 ws0,.int .i64 0,.bot,.bot,.bot,.bot,.bot],.op 0 [.int .u64 0],.os 0 14 []]:=(by rw[← hws0];rfl);rw[hW0]at h43;rw[hws0]at i02;have hTw:=ZW i02;have hCw:=ZV i02;obtain ⟨S0,hS0⟩:∃ z,zS (a*b).toNat=z:=⟨_,rfl⟩;obtain ⟨T0,hT0⟩:∃ z,zT (a*b).toNat=z:=⟨_,rfl⟩;rw[hS0]at h44 i05 i06;rw[hT0]at h44 i08 i09;simp only[qC]at h44;have hb0:YF a b c d e f g els 0=some (ws0,S0,T0):=by rw[← hws0,← hS0,← hT0];rfl
    repeat' with_reducible (first|refine ZR.h ?_|refine kI ?_|((first|refine kR hE ?_|refine kD hE Zq ?_);intro K hK;simp[hck,hcf,h43,h44,hTw,hCw,i05,i06,i08,i09,hTe,hCe,d30,d31,d39,d40];(repeat' (first|refine hK _ _ ?_|apply And.intro|(intro hc;try subst hc)))<;>(try clear hK K))|(refine kT (fun hc=>?_) (fun hc=>?_)<;>simp at hc<;>(try subst hc)))
    all_goals (refine kL (fun (y:Nat×List (List AV)×List (List AV)×List (List AV))=>I9 a b c d e f g els y.1 y.2.1 y.2.2.1 y.2.2.2) (fun y=>y.1≤els.length∧YF a b c d e f g els y.1=some (y.2.1,y.2.2.1,y.2.2.2)) (fun y=>els.length - y.1) (0,ws0,S0,T0) ⟨Nat.zero_le _,hb0⟩ ?_ ?_)
    ·simp only[I9]
     rw[hS];refine Imp.aut ?_ ?_<;>simp[NLe,YH,V8,Uy,hTw,hCw,i05,i06,i08,i09,hTe,hCe]
    ·clear hTw hCw h43 h44 hW0 hws0 hS0 hT0 hb0 i01 i02 i03 i04 i05 i06 i07 i08 i09 ws0 S0 T0
     intro ⟨k,ws,SS,T⟩ ⟨hk,hb⟩;replace hk:k≤els.length:=hk;replace hb:YF a b c d e f g els k=some (ws,SS,T):=hb;obtain ⟨hkN,hw,hwl,⟨hSn,hTS,hCS,hS5⟩,⟨hTn,hTT,hCT,hT5⟩⟩:=XR hcf hcond k ws SS T hk hb;have hTw:=ZW hw;have hCw:=ZV hw;by_cases hkl:k<els.length
     ·have hkI:(k:Int)<(els.length:Int):=by omega
      have hrb:zh els[k]=true:=List.all_eq_true.1 hcond _ (List.getElem_mem hkl);obtain ⟨kd,fl,sg,sl,sf,nm,sd,pr,le,un,hrow,hrng⟩:=Uj hrb;have hrow2:els[k]?=some [.int .i64 kd,.bool fl,.int .i64 sg,.int .i64 sl,.int .i64 sf,.int .i64 nm,.int .i64 sd,.int .i64 pr,.int .i64 le,.int .i64 un]:=(by rw[List.getElem?_eq_getElem hkl,hrow]);have hgd:els.getD k []=[.int .i64 kd,.bool fl,.int .i64 sg,.int .i64 sl,.int .i64 sf,.int .i64 nm,.int .i64 sd,.int .i64 pr,.int .i64 le,.int .i64 un]:=(by rw[List.getD_eq_getElem?_getD,hrow2];rfl);have hSl:(SS.length:Int)=a*b:=(by rw[hSn];omega);obtain ⟨mxv,hmx⟩:∃ z,(if sl<le then le else sl)=z:=⟨_,rfl⟩;obtain ⟨chk,hchk⟩:∃ z,YW c ⟨nm,sd,pr,le,un⟩ mxv 0=z:=⟨_,rfl⟩;have h48:d37 [.agg [.int .i64 a,.int .i64 b,.int .i64 c,.int .i64 d,.int .i64 e,.int .i64 f,.int .i64 g],.agg [.int .i64 nm,.int .i64 sd,.int .i64 pr,.int .i64 le,.int .i64 un],.int .i64 mxv,.int .i64 0] []=some (.int .i64 chk):=(by rw[← hchk];rfl);have h47:d36 [.int .i64 kd] []=some (.bool (ZA kd)):=rfl;have hl6':d34 [.agg [.int .i64 kd,.bool fl,.int .i64 sg,.int .i64 sl,.int .i64 sf]] []=some (VA (ZX ⟨kd,fl,sg,sl,sf⟩)):=(by simp only[d34];rw[if_pos (by omega)]);have hl7':d35 [.agg [.int .i64 nm,.int .i64 sd,.int .i64 pr,.int .i64 le,.int .i64 un]] []=some (VA (UV ⟨nm,sd,pr,le,un⟩)):=(by simp only[d35];rw[if_pos (by omega)]);have hsucc:YF a b c d e f g els (k+1)=match okO a b c f g k [.int .i64 kd,.bool fl,.int .i64 sg,.int .i64 sl,.int .i64 sf,.int .i64 nm,.int .i64 sd,.int .i64 pr,.int .i64 le,.int .i64 un] with
       | none=>none
       | some (v,u)=>some ((ws.set (2*k) [.int .u64 v]).set (2*k+1) [.int .u64 u],SS.set k (ordS [.int .i64 kd,.bool fl,.int .i64 sg,.int .i64 sl,.int .i64 sf,.int .i64 nm,.int .i64 sd,.int .i64 pr,.int .i64 le,.int .i64 un]),T.set k (ordT [.int .i64 kd,.bool fl,.int .i64 sg,.int .i64 sl,.int .i64 sf,.int .i64 nm,.int .i64 sd,.int .i64 pr,.int .i64 le,.int .i64 un])):=by
       simp only[YF,hb,hgd]
       cases okO a b c f g k [.int .i64 kd,.bool fl,.int .i64 sg,.int .i64 sl,.int .i64 sf,.int .i64 nm,.int .i64 sd,.int .i64 pr,.int .i64 le,.int .i64 un] with
       | none=>rfl
       | some p=>rfl
      have hnn:okO a b c f g k [.int .i64 kd,.bool fl,.int .i64 sg,.int .i64 sl,.int .i64 sf,.int .i64 nm,.int .i64 sd,.int .i64 pr,.int .i64 le,.int .i64 un]=none→YF a b c d e f g els els.length=none:=fun h=>by
       rw[h]at hsucc;have:=vO hsucc (els.length - (k+1))
       rwa [show k+1+(els.length - (k+1))=els.length from by omega]at this
      obtain ⟨v,e1,hl6,hv1,hv2⟩:∃ v e1:Int,d34 [.agg [.int .i64 kd,.bool fl,.int .i64 sg,.int .i64 sl,.int .i64 sf]] []=some (.tup [.int .u64 v,.int .i64 e1])∧(e1=0→ZX ⟨kd,fl,sg,sl,sf⟩=some v)∧(e1≠0→ZX ⟨kd,fl,sg,sl,sf⟩=none):=by
       cases h:ZX ⟨kd,fl,sg,sl,sf⟩ with
       | none=>exact ⟨0,5,by rw[hl6',h];rfl,by simp,by simp⟩
       | some v=>exact ⟨v,0,by rw[hl6',h];rfl,by simp,by simp⟩
      obtain ⟨u,e2,hl7,hu1,hu2⟩:∃ v e1:Int,d35 [.agg [.int .i64 nm,.int .i64 sd,.int .i64 pr,.int .i64 le,.int .i64 un]] []=some (.tup [.int .u64 v,.int .i64 e1])∧(e1=0→UV ⟨nm,sd,pr,le,un⟩=some v)∧(e1≠0→UV ⟨nm,sd,pr,le,un⟩=none):=by
       cases h:UV ⟨nm,sd,pr,le,un⟩ with
       | none=>exact ⟨0,5,by rw[hl7',h];rfl,by simp,by simp⟩
       | some v=>exact ⟨v,0,by rw[hl7',h];rfl,by simp,by simp⟩
      clear hl6' hl7';have hno1:¬ (k:Int)<a*b→YF a b c d e f g els els.length=none:=fun hh=>hnn (by
       simp only[okO];split
       ·rw[if_neg (fun h=>hh h.1)]
       ·rfl)
      by_cases h1:(k:Int)<a*b
      case neg =>
       have hnone:=(hno1 h1);have r1:a*b≤(k:Int):=(by omega);simp only[I9]
       as_aux_lemma =>
        repeat' with_reducible (first|refine ZR.h ?_|refine kI ?_|((first|refine kR hE ?_|refine kD hE Zq ?_);intro K hK;simp[hkI,hrow2,hl6,hl7,h47,h48,hSl,hmx,r1,d30,d31,d39,d40];(repeat' (first|refine hK _ _ ?_|apply And.intro|(intro hc;try subst hc)))<;>(try clear hK K))|(refine kT (fun hc=>?_) (fun hc=>?_)<;>simp at hc<;>(try subst hc)))
        all_goals try (show Zb _ _=true;kernel_rfl)
        all_goals first|(simp;done)|((try simp[hnone,Y2]);refine Imp.aut ?_ ?_<;>simp[NLe,YH,V8,Uy,hTe,hCe,hnone,Y2])
      have p1:¬ a*b≤(k:Int):=(by omega);by_cases he1:e1=0
      case neg =>
       have hnone:=(hnn (by simp only[okO,hv2 he1]));have g1:¬ e1=0:=(by omega);simp only[I9]
       as_aux_lemma =>
        repeat' with_reducible (first|refine ZR.h ?_|refine kI ?_|((first|refine kR hE ?_|refine kD hE Zq ?_);intro K hK;simp[hkI,hrow2,hl6,hl7,h47,h48,hSl,hmx,p1,g1,d30,d31,d39,d40];(repeat' (first|refine hK _ _ ?_|apply And.intro|(intro hc;try subst hc)))<;>(try clear hK K))|(refine kT (fun hc=>?_) (fun hc=>?_)<;>simp at hc<;>(try subst hc)))
        all_goals try (show Zb _ _=true;kernel_rfl)
        all_goals first|(simp;done)|((try simp[hnone,Y2]);refine Imp.aut ?_ ?_<;>simp[NLe,YH,V8,Uy,hTe,hCe,hnone,Y2])
      subst he1;have hwS:=hv1 rfl;by_cases he2:e2=0
      case neg =>
       have hnone:=(hnn (by simp only[okO,hu2 he2,hwS]));have g2:¬ e2=0:=(by omega);simp only[I9]
       as_aux_lemma =>
        repeat' with_reducible (first|refine ZR.h ?_|refine kI ?_|((first|refine kR hE ?_|refine kD hE Zq ?_);intro K hK;simp[hkI,hrow2,hl6,hl7,h47,h48,hSl,hmx,p1,g2,d30,d31,d39,d40];(repeat' (first|refine hK _ _ ?_|apply And.intro|(intro hc;try subst hc)))<;>(try clear hK K))|(refine kT (fun hc=>?_) (fun hc=>?_)<;>simp at hc<;>(try subst hc)))
        all_goals try (show Zb _ _=true;kernel_rfl)
        all_goals first|(simp;done)|((try simp[hnone,Y2]);refine Imp.aut ?_ ?_<;>simp[NLe,YH,V8,Uy,hTe,hCe,hnone,Y2])
      subst he2;have hwT:=hu1 rfl;have hv:=U6 hwS;have hu:=ZbA hwT;have hno:¬ ((k:Int)<a*b∧1≤sg∧sg≤g∧1≤sl∧sf<f∧(ZA kd=true∨5≤kd)∧fl=false∧chk=0)→YF a b c d e f g els els.length=none:=fun hh=>hnn (by
       simp only[okO,hwS,hwT,hmx,hchk];rw[if_neg hh])
      by_cases h2:1≤sg
      case neg =>
       have hnone:=(hno fun h=>h2 h.2.1);have r2:sg<1:=(by omega);simp only[I9]
       as_aux_lemma =>
        repeat' with_reducible (first|refine ZR.h ?_|refine kI ?_|((first|refine kR hE ?_|refine kD hE Zq ?_);intro K hK;simp[hkI,hrow2,hl6,hl7,h47,h48,hSl,hmx,p1,r2,d30,d31,d39,d40];(repeat' (first|refine hK _ _ ?_|apply And.intro|(intro hc;try subst hc)))<;>(try clear hK K))|(refine kT (fun hc=>?_) (fun hc=>?_)<;>simp at hc<;>(try subst hc)))
        all_goals try (show Zb _ _=true;kernel_rfl)
        all_goals first|(simp;done)|((try simp[hnone,Y2]);refine Imp.aut ?_ ?_<;>simp[NLe,YH,V8,Uy,hTe,hCe,hnone,Y2])
      have p2:¬ sg<1:=(by omega);by_cases h3:sg≤g
      case neg =>
       have hnone:=(hno fun h=>h3 h.2.2.1);have r3:g<sg:=(by omega);simp only[I9]
       as_aux_lemma =>
        repeat' with_reducible (first|refine ZR.h ?_|refine kI ?_|((first|refine kR hE ?_|refine kD hE Zq ?_);intro K hK;simp[hkI,hrow2,hl6,hl7,h47,h48,hSl,hmx,p1,p2,r3,d30,d31,d39,d40];(repeat' (first|refine hK _ _ ?_|apply And.intro|(intro hc;try subst hc)))<;>(try clear hK K))|(refine kT (fun hc=>?_) (fun hc=>?_)<;>simp at hc<;>(try subst hc)))
        all_goals try (show Zb _ _=true;kernel_rfl)
        all_goals first|(simp;done)|((try simp[hnone,Y2]);refine Imp.aut ?_ ?_<;>simp[NLe,YH,V8,Uy,hTe,hCe,hnone,Y2])
      have p3:¬ g<sg:=(by omega);by_cases h4:1≤sl
      case neg =>
       have hnone:=(hno fun h=>h4 h.2.2.2.1);have r4:sl<1:=(by omega);simp only[I9]
       as_aux_lemma =>
        repeat' with_reducible (first|refine ZR.h ?_|refine kI ?_|((first|refine kR hE ?_|refine kD hE Zq ?_);intro K hK;simp[hkI,hrow2,hl6,hl7,h47,h48,hSl,hmx,p1,p2,p3,r4,d30,d31,d39,d40];(repeat' (first|refine hK _ _ ?_|apply And.intro|(intro hc;try subst hc)))<;>(try clear hK K))|(refine kT (fun hc=>?_) (fun hc=>?_)<;>simp at hc<;>(try subst hc)))
        all_goals try (show Zb _ _=true;kernel_rfl)
        all_goals first|(simp;done)|((try simp[hnone,Y2]);refine Imp.aut ?_ ?_<;>simp[NLe,YH,V8,Uy,hTe,hCe,hnone,Y2])
      have p4:¬ sl<1:=(by omega);by_cases h5:sf<f
      case neg =>
       have hnone:=(hno fun h=>h5 h.2.2.2.2.1);have r5:f≤sf:=(by omega);simp only[I9]
       as_aux_lemma =>
        repeat' with_reducible (first|refine ZR.h ?_|refine kI ?_|((first|refine kR hE ?_|refine kD hE Zq ?_);intro K hK;simp[hkI,hrow2,hl6,hl7,h47,h48,hSl,hmx,p1,p2,p3,p4,r5,d30,d31,d39,d40];(repeat' (first|refine hK _ _ ?_|apply And.intro|(intro hc;try subst hc)))<;>(try clear hK K))|(refine kT (fun hc=>?_) (fun hc=>?_)<;>simp at hc<;>(try subst hc)))
        all_goals try (show Zb _ _=true;kernel_rfl)
        all_goals first|(simp;done)|((try simp[hnone,Y2]);refine Imp.aut ?_ ?_<;>simp[NLe,YH,V8,Uy,hTe,hCe,hnone,Y2])
      have p5:¬ f≤sf:=(by omega);by_cases h6:ZA kd=true∨5≤kd
      case neg =>
       have l2:ZA kd=false:=by
        cases h:ZA kd
        ·rfl
        ·exact absurd (.inl h) h6
       have hnone:=(hno fun h=>h6 h.2.2.2.2.2.1);have l3:kd<5:=(by have:=fun h=>h6 (.inr h);omega);simp only[I9]
       as_aux_lemma =>
        repeat' with_reducible (first|refine ZR.h ?_|refine kI ?_|((first|refine kR hE ?_|refine kD hE Zq ?_);intro K hK;simp[hkI,hrow2,hl6,hl7,h47,h48,hSl,hmx,p1,p2,p3,p4,p5,l2,l3,d30,d31,d39,d40];(repeat' (first|refine hK _ _ ?_|apply And.intro|(intro hc;try subst hc)))<;>(try clear hK K))|(refine kT (fun hc=>?_) (fun hc=>?_)<;>simp at hc<;>(try subst hc)))
        all_goals try (show Zb _ _=true;kernel_rfl)
        all_goals first|(simp;done)|((try simp[hnone,Y2]);refine Imp.aut ?_ ?_<;>simp[NLe,YH,V8,Uy,hTe,hCe,hnone,Y2])
      cases fl
      case true =>
       have hnone:=hno fun h=>by simp at h
       by_cases l1:ZA kd=true
       ·simp only[I9]
        as_aux_lemma =>
         repeat' with_reducible (first|refine ZR.h ?_|refine kI ?_|((first|refine kR hE ?_|refine kD hE Zq ?_);intro K hK;simp[hkI,hrow2,hl6,hl7,h47,h48,hSl,hmx,p1,p2,p3,p4,p5,l1,d30,d31,d39,d40];(repeat' (first|refine hK _ _ ?_|apply And.intro|(intro hc;try subst hc)))<;>(try clear hK K))|(refine kT (fun hc=>?_) (fun hc=>?_)<;>simp at hc<;>(try subst hc)))
         all_goals try (show Zb _ _=true;kernel_rfl)
         all_goals first|(simp;done)|((try simp[hnone,Y2]);refine Imp.aut ?_ ?_<;>simp[NLe,YH,V8,Uy,hTe,hCe,hnone,Y2])
       ·have l2:ZA kd=false:=by simpa using l1
        have l4:¬ kd<5:=(by have:=h6.resolve_left l1;omega);simp only[I9]
        as_aux_lemma =>
         repeat' with_reducible (first|refine ZR.h ?_|refine kI ?_|((first|refine kR hE ?_|refine kD hE Zq ?_);intro K hK;simp[hkI,hrow2,hl6,hl7,h47,h48,hSl,hmx,p1,p2,p3,p4,p5,l2,l4,d30,d31,d39,d40];(repeat' (first|refine hK _ _ ?_|apply And.intro|(intro hc;try subst hc)))<;>(try clear hK K))|(refine kT (fun hc=>?_) (fun hc=>?_)<;>simp at hc<;>(try subst hc)))
         all_goals try (show Zb _ _=true;kernel_rfl)
         all_goals first|(simp;done)|((try simp[hnone,Y2]);refine Imp.aut ?_ ?_<;>simp[NLe,YH,V8,Uy,hTe,hCe,hnone,Y2])
      by_cases h8:chk=0
      case neg =>
       have hnone:=hno fun h=>h8 h.2.2.2.2.2.2.2;by_cases l1:ZA kd=true
       ·simp only[I9]
        as_aux_lemma =>
         repeat' with_reducible (first|refine ZR.h ?_|refine kI ?_|((first|refine kR hE ?_|refine kD hE Zq ?_);intro K hK;simp[hkI,hrow2,hl6,hl7,h47,h48,hSl,hmx,p1,p2,p3,p4,p5,l1,h8,d30,d31,d39,d40];(repeat' (first|refine hK _ _ ?_|apply And.intro|(intro hc;try subst hc)))<;>(try clear hK K))|(refine kT (fun hc=>?_) (fun hc=>?_)<;>simp at hc<;>(try subst hc)))
         all_goals try (show Zb _ _=true;kernel_rfl)
         all_goals first|(simp;done)|((try simp[hnone,Y2]);refine Imp.aut ?_ ?_<;>simp[NLe,YH,V8,Uy,hTe,hCe,hnone,Y2])
       ·have l2:ZA kd=false:=by simpa using l1
        have l4:¬ kd<5:=(by have:=h6.resolve_left l1;omega);simp only[I9]
        as_aux_lemma =>
         repeat' with_reducible (first|refine ZR.h ?_|refine kI ?_|((first|refine kR hE ?_|refine kD hE Zq ?_);intro K hK;simp[hkI,hrow2,hl6,hl7,h47,h48,hSl,hmx,p1,p2,p3,p4,p5,l2,l4,h8,d30,d31,d39,d40];(repeat' (first|refine hK _ _ ?_|apply And.intro|(intro hc;try subst hc)))<;>(try clear hK K))|(refine kT (fun hc=>?_) (fun hc=>?_)<;>simp at hc<;>(try subst hc)))
         all_goals try (show Zb _ _=true;kernel_rfl)
         all_goals first|(simp;done)|((try simp[hnone,Y2]);refine Imp.aut ?_ ?_<;>simp[NLe,YH,V8,Uy,hTe,hCe,hnone,Y2])
      have hyes:YF a b c d e f g els (k+1)=some ((ws.set (2*k) [.int .u64 v]).set (2*k+1) [.int .u64 u],SS.set k [.int .i64 kd,.bool false,.int .i64 sg,.int .i64 sl,.int .i64 sf],T.set k [.int .i64 nm,.int .i64 sd,.int .i64 pr,.int .i64 le,.int .i64 un]):=by
       rw[hsucc];simp only[okO,hwS,hwT,hmx,hchk];rw[if_pos ⟨h1,h2,h3,h4,h5,h6,by first|trivial|rfl,h8⟩]
       rfl
      clear hsucc hnn hno hno1;have e1:(2*(k:Int)).toNat=2*k:=(by omega);have e2:(2*(k:Int)+1).toNat=2*k+1:=(by omega);have hkW:2*(k:Int)<ws.length:=(by rw[hwl];omega);have hkW2:2*(k:Int)+1<ws.length:=(by rw[hwl];omega);obtain ⟨ws1,hws1⟩:∃ z,ws.set (2*k) [AV.int .u64 v]=z:=⟨_,rfl⟩;obtain ⟨ws2,hws2⟩:∃ z,ws1.set (2*k+1) [AV.int .u64 u]=z:=⟨_,rfl⟩;have hi1:ws1.all isW=true:=(by rw[← hws1];exact TI hw hv.1 hv.2 _);have hi2:ws2.all isW=true:=(by rw[← hws2];exact TI hi1 hu.1 hu.2 _);have hl1:ws1.length=ws.length:=(by rw[← hws1,List.length_set]);have h49a:∀ t1 t2,d38 [.op t1 [.os t2 1 ws,.int .i64 (2*(k:Int)),.bot,.bot,.bot,.bot,.bot],.int .i64 (2*(k:Int)),.int .u64 v]=some ⟨.raw .nilIface,[.cells 0 [.os 0 1 ws1,.int .i64 (2*(k:Int)+1),.bot,.bot,.bot,.bot,.bot]]⟩:=fun t1 t2=>by
       simp only[d38];rw[if_pos ⟨hw,by omega,by omega,hv.1,hv.2⟩,if_neg (by omega),if_neg (by omega),e1,hws1]
      have h49b:∀ t1 t2,d38 [.op t1 [.os t2 1 ws1,.int .i64 (2*(k:Int)+1),.bot,.bot,.bot,.bot,.bot],.int .i64 (2*(k:Int)+1),.int .u64 u]=some ⟨.raw .nilIface,[.cells 0 [.os 0 1 ws2,.int .i64 (2*(k:Int)+1+1),.bot,.bot,.bot,.bot,.bot]]⟩:=fun t1 t2=>by
       simp only[d38];rw[if_pos ⟨hi1,by omega,by omega,hu.1,hu.2⟩,if_neg (by omega),if_neg (by omega),e2,hws2]
      rw[hws1,hws2]at hyes;have tk1:k<SS.length:=(by rw[hSn];omega);have tk2:k<T.length:=(by rw[hTn];omega);have tk3:(k:Int)≤1000:=(by omega);by_cases l1:ZA kd=true
      ·have hTw1:=ZW hi1
       have hCw1:=ZV hi1;have hTw2:=ZW hi2;have hCw2:=ZV hi2;have hk9:=tk3;have hk0:0≤(k:Int):=(by omega);have hS6:=hS5 _ (List.getElem_mem tk1);have hT6:=hT5 _ (List.getElem_mem tk2);have hS7:List.drop 5 SS[k]=[]:=List.drop_eq_nil_of_le (by omega);have hT7:List.drop 5 T[k]=[]:=List.drop_eq_nil_of_le (by omega);have hka:(k:Int)<a*b:=(by omega);have hkTI:(k:Int)<(T.length:Int):=(by omega);have ww:IntKind.wrap .i64 ((k:Int)+1)=(k:Int)+1:=Zg (by omega) (by omega);have hTS2:=yb (c:=[.int .i64 kd,.bool false,.int .i64 sg,.int .i64 sl,.int .i64 sf]) rfl k hTS;have hCS2:=zV (c:=[.int .i64 kd,.bool false,.int .i64 sg,.int .i64 sl,.int .i64 sf]) rfl k hCS;have hTT2:=yb (c:=[.int .i64 nm,.int .i64 sd,.int .i64 pr,.int .i64 le,.int .i64 un]) rfl k hTT;have hCT2:=zV (c:=[.int .i64 nm,.int .i64 sd,.int .i64 pr,.int .i64 le,.int .i64 un]) rfl k hCT;have e5:2*(((k+1:Nat):Int))=2*(k:Int)+1+1:=(by omega);simp only[I9]
       as_aux_lemma =>
        repeat' with_reducible (first|refine ZR.h ?_|refine kI ?_|((first|refine kR hE ?_|refine kD hE Zq ?_);intro K hK;simp[hkI,hrow2,hl6,hl7,h47,h48,hSl,hmx,p1,p2,p3,p4,p5,l1,h8,hcf,hk0,hk9,h49a,h49b,hTw,hCw,hTw1,hCw1,hTw2,hCw2,hTS,hCS,hTT,hCT,tk1,tk2,ww,hka,hkTI,hS6,hT6,hS7,hT7,d30,d31,d39,d40];(repeat' (first|refine hK _ _ ?_|apply And.intro|(intro hc;try subst hc)))<;>(try clear hK K))|(refine kT (fun hc=>?_) (fun hc=>?_)<;>simp at hc<;>(try subst hc)))
        all_goals try (show Zb _ _=true;kernel_rfl)
        all_goals (show vK _ _ _ _ _ _ _ _)
        all_goals refine ⟨(k+1,ws2,SS.set k [.int .i64 kd,.bool false,.int .i64 sg,.int .i64 sl,.int .i64 sf],T.set k [.int .i64 nm,.int .i64 sd,.int .i64 pr,.int .i64 le,.int .i64 un]),⟨hkl,hyes⟩,Nat.sub_lt_sub_left hkl (Nat.lt_succ_self k),?_⟩
        all_goals simp only[I9,e5]
        all_goals rw[hS]
        all_goals (refine Imp.aut ?_ ?_<;>simp[NLe,YH,V8,Uy,hTw,hCw,hTS,hCS,hTT,hCT,hTe,hCe,hTw2,hCw2,hTS2,hCS2,hTT2,hCT2])
      ·have l2:ZA kd=false:=by simpa using l1
       have l4:¬ kd<5:=(by have:=h6.resolve_left l1;omega);have hTw1:=ZW hi1;have hCw1:=ZV hi1;have hTw2:=ZW hi2;have hCw2:=ZV hi2;have hk9:=tk3;have hk0:0≤(k:Int):=(by omega);have hS6:=hS5 _ (List.getElem_mem tk1);have hT6:=hT5 _ (List.getElem_mem tk2);have hS7:List.drop 5 SS[k]=[]:=List.drop_eq_nil_of_le (by omega);have hT7:List.drop 5 T[k]=[]:=List.drop_eq_nil_of_le (by omega);have hka:(k:Int)<a*b:=(by omega);have hkTI:(k:Int)<(T.length:Int):=(by omega);have ww:IntKind.wrap .i64 ((k:Int)+1)=(k:Int)+1:=Zg (by omega) (by omega);have hTS2:=yb (c:=[.int .i64 kd,.bool false,.int .i64 sg,.int .i64 sl,.int .i64 sf]) rfl k hTS;have hCS2:=zV (c:=[.int .i64 kd,.bool false,.int .i64 sg,.int .i64 sl,.int .i64 sf]) rfl k hCS;have hTT2:=yb (c:=[.int .i64 nm,.int .i64 sd,.int .i64 pr,.int .i64 le,.int .i64 un]) rfl k hTT;have hCT2:=zV (c:=[.int .i64 nm,.int .i64 sd,.int .i64 pr,.int .i64 le,.int .i64 un]) rfl k hCT;have e5:2*(((k+1:Nat):Int))=2*(k:Int)+1+1:=(by omega);simp only[I9]
       as_aux_lemma =>
        repeat' with_reducible (first|refine ZR.h ?_|refine kI ?_|((first|refine kR hE ?_|refine kD hE Zq ?_);intro K hK;simp[hkI,hrow2,hl6,hl7,h47,h48,hSl,hmx,p1,p2,p3,p4,p5,l2,l4,h8,hcf,hk0,hk9,h49a,h49b,hTw,hCw,hTw1,hCw1,hTw2,hCw2,hTS,hCS,hTT,hCT,tk1,tk2,ww,hka,hkTI,hS6,hT6,hS7,hT7,d30,d31,d39,d40];(repeat' (first|refine hK _ _ ?_|apply And.intro|(intro hc;try subst hc)))<;>(try clear hK K))|(refine kT (fun hc=>?_) (fun hc=>?_)<;>simp at hc<;>(try subst hc)))
        all_goals try (show Zb _ _=true;kernel_rfl)
        all_goals (show vK _ _ _ _ _ _ _ _)
        all_goals refine ⟨(k+1,ws2,SS.set k [.int .i64 kd,.bool false,.int .i64 sg,.int .i64 sl,.int .i64 sf],T.set k [.int .i64 nm,.int .i64 sd,.int .i64 pr,.int .i64 le,.int .i64 un]),⟨hkl,hyes⟩,Nat.sub_lt_sub_left hkl (Nat.lt_succ_self k),?_⟩
        all_goals simp only[I9,e5]
        all_goals rw[hS]
        all_goals (refine Imp.aut ?_ ?_<;>simp[NLe,YH,V8,Uy,hTw,hCw,hTS,hCS,hTT,hCT,hTe,hCe,hTw2,hCw2,hTS2,hCS2,hTT2,hCT2])
     ·have hke:k=els.length:=by omega
      subst hke;simp only[I9];have hkI:¬ ((els.length:Int)<(els.length:Int)):=by omega
      repeat' with_reducible (first|refine ZR.h ?_|refine kI ?_|((first|refine kR hE ?_|refine kD hE Zq ?_);intro K hK;simp[hkI,d30,d31,d39,d40];(repeat' (first|refine hK _ _ ?_|apply And.intro|(intro hc;try subst hc)))<;>(try clear hK K))|(refine kT (fun hc=>?_) (fun hc=>?_)<;>simp at hc<;>(try subst hc)))
      all_goals first|(show Zb _ _=true;kernel_rfl)|(simp;done)|((try simp[hb,Y2,wzC,qC,hTw,hCw,hTS,hCS,hTT,hCT,hTe,hCe]);refine Imp.aut ?_ ?_<;>simp[NLe,YH,V8,Uy,hTw,hCw,hTS,hCS,hTT,hCT,hTe,hCe,hb,Y2,wzC,qC])
   ·rw[if_neg hcf]
    have hck:Xs a b c d e f g≠-1:=fun h=>hcf ((Tg a b c d e f g).mp h);have hcf2:X7 a b c d e f g=false:=by simpa using hcf
    repeat' with_reducible (first|refine ZR.h ?_|refine kI ?_|((first|refine kR hE ?_|refine kD hE Zq ?_);intro K hK;simp[hck,hcf2,hTe,hCe,d30,d31,d39,d40];(repeat' (first|refine hK _ _ ?_|apply And.intro|(intro hc;try subst hc)))<;>(try clear hK K))|(refine kT (fun hc=>?_) (fun hc=>?_)<;>simp at hc<;>(try subst hc)))
    all_goals first|(show Zb _ _=true;kernel_rfl)|(simp;done)|(simp at *;omega)|((try simp[hTe,hCe]);refine Imp.aut ?_ ?_<;>simp[NLe,hTe,hCe])
  ·cases h
 ·cases h
end Go.W
namespace Go.W
set_option linter.unusedSimpArgs false
set_option linter.unusedVariables false
inductive Tr (α:Type) where
  | nil
  | node (v:Option α) (l r:Tr α)
def Tr.get {α:Type}:Tr α→Nat→Option α
  | .nil,_=>none
  | .node v l r,k=>match Nat.beq k 0 with
    | true=>v
    | false=>match Nat.beq ((k - 1) % 2) 0 with
      | true=>l.get ((k - 1) / 2)
      | false=>r.get ((k - 1) / 2)
def Tr.put {α:Type}:Nat→Tr α→Nat→α→Tr α
  | 0,t,_,_=>t
  | n+1,t,k,x=>match t with
    | .nil=>(match Nat.beq k 0 with
      | true=>.node (some x) .nil .nil
      | false=>match Nat.beq ((k - 1) % 2) 0 with
        | true=>.node none (Tr.put n .nil ((k - 1) / 2) x) .nil
        | false=>.node none .nil (Tr.put n .nil ((k - 1) / 2) x))
    | .node v l r=>(match Nat.beq k 0 with
      | true=>.node (some x) l r
      | false=>match Nat.beq ((k - 1) % 2) 0 with
        | true=>.node v (Tr.put n l ((k - 1) / 2) x) r
        | false=>.node v l (Tr.put n r ((k - 1) / 2) x))
theorem Tr.get_put {α:Type}:∀ (n:Nat) (t:Tr α) (k:Nat) (x:α) (j:Nat),k+1<2 ^ n→(t.put n k x).get j=if j=k then some x else t.get j
  | 0,t,k,x,j,h=>by simp at h
  | n+1,t,k,x,j,h=>by
    have ih:=fun (t:Tr α) j=>Tr.get_put n t ((k - 1) / 2) x j;have key:∀ v (l r:Tr α),(match Nat.beq k 0 with
      | true=>Tr.node (some x) l r
      | false=>match Nat.beq ((k - 1) % 2) 0 with
        | true=>.node v (Tr.put n l ((k - 1) / 2) x) r
        | false=>.node v l (Tr.put n r ((k - 1) / 2) x)).get j=if j=k then some x else (Tr.node v l r).get j:=by
      intro v l r
      by_cases hk:k=0
      · subst hk
        simp only[Nat.beq_refl,Tr.get]
        by_cases hj:j=0
        · subst hj;simp
        · have:Nat.beq j 0=false:=by rw[← Bool.not_eq_true,Nat.beq_eq];exact hj
          rw[this,if_neg hj]
      · have hb:Nat.beq k 0=false:=by rw[← Bool.not_eq_true,Nat.beq_eq];exact hk
        have h2:(k - 1) / 2+1<2 ^ n:=by rw[Nat.pow_succ]at h;omega
        rw[hb]
        simp only
        by_cases hm:(k - 1) % 2=0
        · have:Nat.beq ((k - 1) % 2) 0=true:=by rw[Nat.beq_eq];exact hm
          rw[this]
          simp only[Tr.get]
          by_cases hj:j=0
          · subst hj;rw[if_neg (fun e=>hk e.symm)]
          · have hjb:Nat.beq j 0=false:=by rw[← Bool.not_eq_true,Nat.beq_eq];exact hj
            rw[hjb]
            simp only
            by_cases hjm:(j - 1) % 2=0
            · have:Nat.beq ((j - 1) % 2) 0=true:=by rw[Nat.beq_eq];exact hjm
              rw[this]
              simp only
              rw[ih l _ h2]
              by_cases e:j=k
              · subst e;simp
              · rw[if_neg e,if_neg (by omega)]
            · have:Nat.beq ((j - 1) % 2) 0=false:=by rw[← Bool.not_eq_true,Nat.beq_eq];exact hjm
              rw[this,if_neg (fun e=>hjm (by rw[e];exact hm))]
        · have:Nat.beq ((k - 1) % 2) 0=false:=by rw[← Bool.not_eq_true,Nat.beq_eq];exact hm
          rw[this]
          simp only[Tr.get]
          by_cases hj:j=0
          · subst hj;rw[if_neg (fun e=>hk e.symm)]
          · have hjb:Nat.beq j 0=false:=by rw[← Bool.not_eq_true,Nat.beq_eq];exact hj
            rw[hjb]
            simp only
            by_cases hjm:(j - 1) % 2=0
            · have:Nat.beq ((j - 1) % 2) 0=true:=by rw[Nat.beq_eq];exact hjm
              rw[this,if_neg (fun e=>hm (by rw[← e];exact hjm))]
            · have:Nat.beq ((j - 1) % 2) 0=false:=by rw[← Bool.not_eq_true,Nat.beq_eq];exact hjm
              rw[this]
              simp only
              rw[ih r _ h2]
              by_cases e:j=k
              · subst e;simp
              · rw[if_neg e,if_neg (by omega)]
    cases t with
    | nil =>
      have:=key none .nil .nil;simp only[Tr.put];refine Eq.trans ?_ (this.trans ?_)
      · cases Nat.beq k 0<;>rfl
      · split
        · rfl
        · simp only[Tr.get]
          cases Nat.beq j 0<;>simp only
          cases Nat.beq ((j - 1) % 2) 0<;>rfl
    | node v l r=>exact key v l r
abbrev bnd:Nat:=1000000000000
theorem Tr.get_put' {α:Type} {t:Tr α} {k:Nat} {x:α} (h:k≤bnd) (j:Nat):(t.put 40 k x).get j=if j=k then some x else t.get j :=
  Tr.get_put 40 t k x j (by have:bnd+1<2 ^ 40:=by decide
                            omega)
structure ES where
  t:Tr AV
  h:Tr NObj
  wl:List Nat
  rd:List Nat
  nb:Nat
def ES.T (s:ES):Nat→AV:=fun n=>match s.t.get n with
  | some v=>v
  | none=>.bot
def ES.G (s:ES) (G:NH):NH:=fun x=>match s.h.get x with
  | some o=>o
  | none=>G x
def ES.look (s:ES):List Nat→ES
  | []=>s
  | x :: r=>match s.h.get x with
    | some _=>s.look r
    | none=>match s.rd.contains x with
      | true=>s.look r
      | false=>ES.look { s with rd:=x :: s.rd } r
def ES.putH (s:ES):List (Nat×NObj)→ES
  | []=>s
  | (x,o) :: r=>ES.putH { s with h:=s.h.put 40 x o,wl:=match s.h.get x with
    | some _=>s.wl
    | none=>x :: s.wl } r
def ES.next (s:ES) (dst:Option Nat) (q:Res):ES :=
  let u:=(s.look q.rd).putH q.hs
  ⟨match dst with
    | some d=>s.t.put 40 d q.v
    | none=>s.t,u.h,u.wl,u.rd,s.nb+q.n⟩
def evR (E:FuncId→Option Spec) (G:NH):List MO→Nat→ES→List (Nat×List Nat×List Nat)→Option (ES×List (Nat×List Nat×List Nat))
  | [],_,s,lg=>some (s,lg)
  | mo :: r,i,s,lg=>match XH E s.T (s.G G) s.nb mo with
    | some q=>if (q.hs.all fun p=>Nat.ble p.1 bnd)=true then evR E G r (i+1) (s.next mo.dst q) (lg++[(i,q.hs.map (·.1),q.rd)]) else none
    | none=>none
def cloP:List (List Nat)→List (List Nat)→List (List Nat)
  | acc,[]=>acc
  | acc,p :: r=>cloP (acc++[(p++p.flatMap (fun j=>acc.getD j [])).eraseDups]) r
def Zap (r:Option (Exit×ES)) (k:ES→Option (Exit×ES)):Option (Exit×ES) :=
  match r with
  | some (.normal,s)=>k s
  | some (.exit j,s)=>some (.exit j,s)
  | some (.ret,s)=>some (.ret,s)
  | _=>none
def ZeE (id:Nat) (r:Option (Exit×ES)):Option (Exit×ES) :=
  match r with
  | some (.normal,s)=>some (.normal,s)
  | some (.exit j,s)=>if j=id then some (.normal,s) else some (.exit j,s)
  | some (.ret,s)=>some (.ret,s)
  | _=>none
def Vm (E:FuncId→Option Spec) (N:Nat) (G:NH):Nat→MCode→ES→Option (Exit×ES)
  | 0,_,_=>none
  | n+1,c,s=>match c with
    | .skip=>some (.normal,s)
    | .reg mos=>if Zcs N mos=true then (match evR E G mos 0 s [] with
      | some x=>some (.normal,x.1)
      | none=>none) else none
    | .draw mos pr=>if T8 N mos pr (cloP [] pr)=true then (match evR E G mos 0 s [] with
      | some x=>if Zhu (Zai (cloP [] pr)) x.2=true then some (.normal,x.1) else none
      | none=>none) else none
    | .seq a b=>Zap (Vm E N G n a s) fun s' => Vm E N G n b s'
    | .cond c a b=>match c.ev s.T with
      | .bool true=>Vm E N G n a s
      | .bool false=>Vm E N G n b s
      | _=>none
    | .block id a=>ZeE id (Vm E N G n a s)
    | .loop a=>Zap (Vm E N G n a s) fun s' => Vm E N G n (.loop a) s'
    | .exit id=>some (.exit id,s)
    | .ret=>some (.ret,s)
theorem TX {r:Option (Exit×ES)} {k:ES→Option (Exit×ES)} {e:Exit} {s:ES} (h:Zap r k=some (e,s)):(∃ s1,r=some (.normal,s1)∧k s1=some (e,s))∨(r=some (e,s)∧e≠.normal):=by
  unfold Zap at h;split at h
  · exact .inl ⟨_,rfl,h⟩
  · injection h with h;injection h with h1 h2;subst h1 h2;exact .inr ⟨rfl,by simp⟩
  · injection h with h;injection h with h1 h2;subst h1 h2;exact .inr ⟨rfl,by simp⟩
  · cases h
theorem zU {id:Nat} {r:Option (Exit×ES)} {e:Exit} {s:ES} (h:ZeE id r=some (e,s)):∃ e0,r=some (e0,s)∧e=(match e0 with
    | .exit j=>if j=id then .normal else .exit j
    | e=>e):=by
  unfold ZeE at h
  split at h
  · injection h with h;injection h with h1 h2;subst h1 h2;exact ⟨_,rfl,rfl⟩
  · split at h
    · rename_i hj;injection h with h;injection h with h1 h2;subst h1 h2;exact ⟨_,rfl,by simp[hj]⟩
    · rename_i hj;injection h with h;injection h with h1 h2;subst h1 h2;exact ⟨_,rfl,by simp[hj]⟩
  · injection h with h;injection h with h1 h2;subst h1 h2;exact ⟨_,rfl,rfl⟩
  · cases h
def ES.st (s:ES) (res:List RV):St:=⟨res.map (fun r=>match r with
  | .t n=>(n,s.T n)
  | .c _ _ a=>(a,s.T a)),s.wl.map (fun x=>(x,s.G (fun _=>.free) x)),s.nb⟩
def Zjq:Nat→List AV→Tr AV→Tr AV
  | _,[],t=>t
  | i,v :: r,t=>Zjq (i+1) r (t.put 40 i v)
def evE (E:FuncId→Option Spec) (N:Nat) (mc:MCode) (res:List RV) (args:List AV) (G:NH) (nb:Nat):Option Res :=
  match Vm E N G 100000 mc ⟨Zjq 0 args .nil,.nil,[],[],nb⟩ with
  | some (.normal,s) | some (.ret,s)=>(match z8 (s.st res) res with
    | some v=>some ⟨v,s.wl.map (fun x=>(x,s.G (fun _=>.free) x)),s.rd,s.nb - nb⟩
    | none=>none)
  | _=>none
def evF (E:FuncId→Option Spec) (P:Program) (f:FuncId) (args:List AV) (G:NH) (nb:Nat):Option Res :=
  match P.funcs[f]? with
  | some fn=>(match ZeJ P fn,Zaj P fn.results.toList with
    | some mc,some res=>if args.length≤fn.ntmps∧fn.ntmps≤bnd then evE E fn.ntmps mc res args G nb else none
    | _,_=>none)
  | none=>none
def ES.Ok (s:ES):Prop:=∀ x,s.h.get x≠none→x∈s.wl
theorem ZaZ:∀ (l:List Nat) (s:ES),(s.look l).h=s.h∧(s.look l).t=s.t∧(s.look l).wl=s.wl∧(s.look l).nb=s.nb∧(∀ x,x∈s.rd→x∈(s.look l).rd)∧∀ x,x∈l→s.h.get x=none→x∈(s.look l).rd
  | [],s=>⟨rfl,rfl,rfl,rfl,fun _ h=>h,fun x h=>by simp at h⟩
  | y :: r,s=>by
    simp only[ES.look];cases hy:s.h.get y with
    | some o =>
      obtain ⟨h1,h2,h3,h4,h5,h6⟩:=ZaZ r s;refine ⟨h1,h2,h3,h4,h5,fun x hx hn=>?_⟩;rcases List.mem_cons.1 hx with rfl|hx
      · rw[hy]at hn;cases hn
      · exact h6 x hx hn
    | none =>
      cases hc:s.rd.contains y with
      | true =>
        obtain ⟨h1,h2,h3,h4,h5,h6⟩:=ZaZ r s;refine ⟨h1,h2,h3,h4,h5,fun x hx hn=>?_⟩;rcases List.mem_cons.1 hx with rfl|hx
        · exact h5 _ (by simpa using hc)
        · exact h6 x hx hn
      | false =>
        obtain ⟨h1,h2,h3,h4,h5,h6⟩:=ZaZ r { s with rd:=y :: s.rd };refine ⟨h1,h2,h3,h4,fun x hx=>h5 x (List.mem_cons_of_mem _ hx),fun x hx hn=>?_⟩;rcases List.mem_cons.1 hx with rfl|hx
        · exact h5 _ List.mem_cons_self
        · exact h6 x hx hn
theorem ZeD (G:NH):∀ (hs:List (Nat×NObj)) (s:ES),(hs.all fun p=>Nat.ble p.1 bnd)=true→s.Ok→(s.putH hs).Ok∧(s.putH hs).G G=Yr (s.G G) hs∧(s.putH hs).t=s.t∧(s.putH hs).rd=s.rd∧(s.putH hs).nb=s.nb∧(∀ x,x∈(s.putH hs).wl↔x∈s.wl∨x∈hs.map (·.1))∧∀ x,(s.putH hs).h.get x=none→s.h.get x=none
  | [],s,_,h=>⟨h,rfl,rfl,rfl,rfl,fun x=>by simp[ES.putH],fun x h=>h⟩
  | (y,o) :: r,s,hb,h=>by
    simp only[List.all_cons,Bool.and_eq_true,Nat.ble_eq]at hb;have hg:=fun j=>Tr.get_put' (t:=s.h) (x:=o) hb.1 j;have hwl:∀ x,x∈(match s.h.get y with
      | some _=>s.wl
      | none=>y :: s.wl)↔x∈s.wl∨x=y:=fun x=>by
      cases hy:s.h.get y with
      | some o' => simp only;exact ⟨.inl,fun hx=>hx.elim id fun e=>by rw[e];exact h y (by rw[hy];simp)⟩
      | none=>simp only[List.mem_cons];exact or_comm
    obtain ⟨h1,h2,h3,h4,h5,h6,h7⟩:=ZeD G r { s with h:=s.h.put 40 y o,wl:=match s.h.get y with
      | some _=>s.wl
      | none=>y :: s.wl } hb.2 (fun x hx=>by
        simp only at hx⊢;rw[hwl];rw[hg]at hx;by_cases e:x=y
        · exact .inr e
        · rw[if_neg e]at hx;exact .inl (h x hx))
    refine ⟨h1,?_,h3,h4,h5,fun x=>?_,fun x hx=>?_⟩
    · show (ES.putH _ r).G G=_
      rw[h2]
      show Yr _ r=Yr (upd (s.G G) y o) r
      congr 1
      funext x
      simp only[ES.G,UA,hg]
      by_cases e:x=y
      · rw[if_pos e,if_pos e]
      · rw[if_neg e,if_neg e]
    · show x∈(ES.putH _ r).wl↔_
      rw[h6]
      simp only[List.map_cons,List.mem_cons]
      rw[hwl]
      exact or_assoc
    · have:=h7 x hx
      simp only[hg]at this
      split at this
      · cases this
      · exact this
theorem ZhA (G:NH) (s:ES) (mo:MO) (q:Res) (hb:(q.hs.all fun p=>Nat.ble p.1 bnd)=true) (hd:∀ d,mo.dst=some d→d≤bnd) (h:s.Ok):(s.next mo.dst q).Ok∧(s.next mo.dst q).G G=Yr (s.G G) q.hs∧(s.next mo.dst q).T=yu s.T mo q∧(s.next mo.dst q).nb=s.nb+q.n ∧
    (∀ x,x∈(s.next mo.dst q).wl↔x∈s.wl∨x∈q.hs.map (·.1))∧(∀ x,x∈s.rd→x∈(s.next mo.dst q).rd)∧∀ x,x∈q.rd→s.h.get x=none→x∈(s.next mo.dst q).rd:=by
  obtain ⟨a1,a2,a3,a4,a5,a6⟩:=ZaZ q.rd s
  have hok:(s.look q.rd).Ok:=fun x hx=>by rw[a1]at hx;rw[a3];exact h x hx
  obtain ⟨b1,b2,b3,b4,b5,b6,b7⟩:=ZeD G q.hs (s.look q.rd) hb hok
  have hG:(s.look q.rd).G G=s.G G:=by unfold ES.G;rw[a1]
  refine ⟨b1,by rw[← hG,← b2];rfl,?_,rfl,fun x=>by show x∈((s.look q.rd).putH q.hs).wl↔_;rw[b6,a3],fun x hx=>by show x∈((s.look q.rd).putH q.hs).rd;rw[b4];exact a5 x hx,fun x hx hn=>by show x∈((s.look q.rd).putH q.hs).rd;rw[b4];exact a6 x hx hn⟩
  funext n
  unfold yu ES.T ES.next
  cases hdst:mo.dst with
  | none=>rfl
  | some d =>
    simp only[UA];rw[Tr.get_put' (hd d hdst)];by_cases e:n=d
    · rw[if_pos e,if_pos e]
    · rw[if_neg e,if_neg e]
end Go.W
