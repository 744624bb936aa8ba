/- A part of the proofs about the pair's laws (PsV, PsP1, PsP2). -/
import Derived.Test.YtidbbnkpglggdaaPsV1
import Derived.Test.YtidbbnkpglggdaaPsV2
import Derived.Test.YtidbbnkpglggdaaPsV3
import Derived.Test.YtidbbnkpglggdaaPsV4
import Derived.Test.YtidbbnkpglggdaaPsU
import Derived.Test.YtidbbnkpglggdaaPqB
namespace Go.W
open Go.Proofs
set_option linter.unusedSimpArgs false
set_option linter.unusedVariables false
set_option maxHeartbeats 8000000
attribute [local irreducible] Wm
attribute [local simp] nmap lkp mkPl prs prsL prT ddL idL CRenL CRen Ren RenL NObj.none CRenLL
theorem s9:Sound Try.prog 9 (nestS [(10,false)] d9 ok9):=by
 refine nest_sound Try.func9 nm9 rc9 rv9 ok9 (fun xs a h=>?_) fun xs a h w0 S hS=>?_
 ·unfold d9 at h
  (repeat' (split at h))<;>first|(cases h;done)|exact Nat.le_of_ble_eq_true rfl
 unfold d9 at h
 split at h
 ·split at h
  ·rename_i a b c d e f g u els hcond
   injection h with h
   subst h
   have hE:SoundAll Try.prog (EL [(42,nestS [] d42 ok42),(27,nestS [] d27 ok27),(43,nestS [] d43 ok43),(44,nestS [] d44 ok44),(45,rdS d45 ok45),(46,rdS d46 ok46),(47,rdS d47 ok47),(48,rdS d48 ok48),(50,rdS d50 ok50),(51,rdS d51 ok51),(49,nestS [(7,true)] d49 ok49)]):=EL_sound (by simp only[List.mem_cons,List.not_mem_nil,or_false,forall_eq_or_imp,forall_eq];exact ⟨s42,s27,s43,s44,s45,s46,s47,s48,s50,s51,s49⟩)
   have hTe:=ord_t0 hcond
   have hCe:=ord_cl hcond
   by_cases hcf:cfgB a b c d e f g=true
   ·rw[if_pos hcf]
    have hc:=cfg_ex hcf
    have hall:=cfg_all hcf
    have hwd:=words_in (f:=f) (g:=g) (show 0≤a*b by omega) hall.2 (by omega) (by omega)
    have hck:checkZ a b c d e f g=-1:=(check_cfg a b c d e f g).mpr hcf
    have h43:d43 [.agg [.int .i64 a,.int .i64 b,.int .i64 c,.int .i64 d,.int .i64 e,.int .i64 f,.int .i64 g]]=some ⟨.tup [.op 0 (wzC (W0 a b c d e f g)),.raw .nilIface],[]⟩:=by simp only[d43];rw[if_pos hcf]
    have h44:d44 [.agg [.int .i64 a,.int .i64 b,.int .i64 c,.int .i64 d,.int .i64 e,.int .i64 f,.int .i64 g]]=some ⟨.op 0 (qC a b c d e f g (zS (a*b).toNat) (zT (a*b).toNat)),[]⟩:=by simp only[d44];rw[if_pos hcf]
    obtain ⟨i01,i02,i03,⟨i04,i05,i06,_⟩,⟨i07,i08,i09,_⟩⟩:=both_inv hcf hcond 0 _ _ _ (Nat.zero_le _) rfl
    obtain ⟨ws0,hws0⟩:∃ z,(W0 a b c d e f g).ws=z:=⟨_,rfl⟩
    have hW0:wzC (W0 a b c d e f g)=[.int .i64 a,.int .i64 b,.int .i64 c,.int .i64 d,.int .i64 e,.int .i64 f,.int .i64 g,.op 0 [.os 0 1 ws0,.int .i64 0,.bot,.bot,.bot,.bot,.bot],.op 0 [.int .u64 0],.os 0 14 []]:=by rw[← hws0];rfl
    rw[hW0]at h43
    rw[hws0]at i02
    have hTw:=w_t0 i02
    have hCw:=w_cl i02
    obtain ⟨S0,hS0⟩:∃ z,zS (a*b).toNat=z:=⟨_,rfl⟩
    obtain ⟨T0,hT0⟩:∃ z,zT (a*b).toNat=z:=⟨_,rfl⟩
    rw[hS0]at h44 i05 i06
    rw[hT0]at h44 i08 i09
    simp only[qC]at h44
    have hb0:bothZ a b c d e f g els 0=some (ws0,S0,T0):=by rw[← hws0,← hS0,← hT0];rfl
    unfold m9
    repeat' with_reducible (first
     | refine ZR.h ?_ | refine zI (by decide) ?_
     | (refine wregX (mos:=q9_13) hE x9_13 (by kernel_rfl) xe9_13 ?_;intro K hK;rw[x9_13];rw[ecX_cons];simp[q9_13s0,hck,hcf,h43,h44,hTw,hCw,i05,i06,i08,i09,hTe,hCe,d42,d27,d50,d51];rw[ecX_cons];simp[q9_13s1,hck,hcf,h43,h44,hTw,hCw,i05,i06,i08,i09,hTe,hCe,d42,d27,d50,d51];rw[ecX_cons];simp[q9_13s2,hck,hcf,h43,h44,hTw,hCw,i05,i06,i08,i09,hTe,hCe,d42,d27,d50,d51];rw[ecX_cons];simp[q9_13s3,hck,hcf,h43,h44,hTw,hCw,i05,i06,i08,i09,hTe,hCe,d42,d27,d50,d51];rw[ecX_cons];simp[q9_13s4,hck,hcf,h43,h44,hTw,hCw,i05,i06,i08,i09,hTe,hCe,d42,d27,d50,d51];rw[ecX_cons];simp[q9_13s5,hck,hcf,h43,h44,hTw,hCw,i05,i06,i08,i09,hTe,hCe,d42,d27,d50,d51];rw[ecX_nil];(repeat' (first | refine hK _ _ ?_ | refine And.intro ?_ ?_ | (intro hc;try subst hc)))<;>(try clear hK K))
     | ((first | refine zK hE ?_ | refine zL hE mixT ?_);intro K hK;simp[KR.ks,KD.ks,KD.cl,q9_0,q9_1,q9_2,q9_3,q9_4,q9_5,q9_6,q9_7,q9_8,q9_9,q9_10,q9_11,q9_12,q9_14,q9_15,q9_16,q9_17,q9_18,q9_19,hck,hcf,h43,h44,hTw,hCw,i05,i06,i08,i09,hTe,hCe,d42,d27,d50,d51];(repeat' (first | refine hK _ _ ?_ | refine And.intro ?_ ?_ | (intro hc;try subst hc)))<;>(try clear hK K))
     | (refine zJ (b:=_) (by with_unfolding_all rfl) (fun hc=>?_) (fun hc=>?_)<;>simp at hc<;>(try subst hc)))
    all_goals (refine Wm_loop (fun (y:Nat×List (List AV)×List (List AV)×List (List AV))=>I9 a b c d e f g els y.1 y.2.1 y.2.2.1 y.2.2.2) (fun y=>y.1≤els.length∧bothZ a b c d e f g els y.1=some (y.2.1,y.2.2.1,y.2.2.2)) (fun y=>els.length - y.1) (0,ws0,S0,T0) ⟨Nat.zero_le _,hb0⟩ ?_ ?_)
    ·simp only[I9]
     rw[hS]
     refine Imp.auto (by kernel_rfl) ?_ ?_<;>simp[NLe,mkPlX,hTw,hCw,i05,i06,i08,i09,hTe,hCe]
    ·clear hTw hCw h43 h44 hW0 hws0 hS0 hT0 hb0 i01 i02 i03 i04 i05 i06 i07 i08 i09 ws0 S0 T0
     intro ⟨k,ws,SS,T⟩ ⟨hk,hb⟩
     replace hk:k≤els.length:=hk
     replace hb:bothZ a b c d e f g els k=some (ws,SS,T):=hb
     obtain ⟨hkN,hw,hwl,⟨hSn,hTS,hCS,hS5⟩,⟨hTn,hTT,hCT,hT5⟩⟩:=both_inv hcf hcond k ws SS T hk hb
     have hTw:=w_t0 hw
     have hCw:=w_cl hw
     by_cases hkl:k<els.length
     ·have hkI:(k:Int)<(els.length:Int):=by omega
      have hrb:ordB els[k]=true:=List.all_eq_true.1 hcond _ (List.getElem_mem hkl)
      obtain ⟨kd,fl,sg,sl,sf,nm,sd,pr,le,un,hrow,hrng⟩:=ordB_ex hrb
      have hrow2:els[k]?=some [.int .i64 kd,.bool fl,.int .i64 sg,.int .i64 sl,.int .i64 sf,.int .i64 nm,.int .i64 sd,.int .i64 pr,.int .i64 le,.int .i64 un]:=by rw[List.getElem?_eq_getElem hkl,hrow]
      have hgd:els.getD k []=[.int .i64 kd,.bool fl,.int .i64 sg,.int .i64 sl,.int .i64 sf,.int .i64 nm,.int .i64 sd,.int .i64 pr,.int .i64 le,.int .i64 un]:=by rw[List.getD_eq_getElem?_getD,hrow2];rfl
      have hSl:(SS.length:Int)=a*b:=by rw[hSn];omega
      obtain ⟨mxv,hmx⟩:∃ z,(if sl<le then le else sl)=z:=⟨_,rfl⟩
      obtain ⟨chk,hchk⟩:∃ z,chkT c ⟨nm,sd,pr,le,un⟩ mxv 0=z:=⟨_,rfl⟩
      have h48:d48 [.agg [.int .i64 a,.int .i64 b,.int .i64 c,.int .i64 d,.int .i64 e,.int .i64 f,.int .i64 g],.agg [.int .i64 nm,.int .i64 sd,.int .i64 pr,.int .i64 le,.int .i64 un],.int .i64 mxv,.int .i64 0] []=some (.int .i64 chk):=by rw[← hchk];rfl
      have h47:d47 [.int .i64 kd] []=some (.bool (looseZ kd)):=rfl
      have hl6':d45 [.agg [.int .i64 kd,.bool fl,.int .i64 sg,.int .i64 sl,.int .i64 sf]] []=some (wordR (wordS ⟨kd,fl,sg,sl,sf⟩)):=by simp only[d45];rw[if_pos (by omega)]
      have hl7':d46 [.agg [.int .i64 nm,.int .i64 sd,.int .i64 pr,.int .i64 le,.int .i64 un]] []=some (wordR (wordT ⟨nm,sd,pr,le,un⟩)):=by simp only[d46];rw[if_pos (by omega)]
      have hsucc:bothZ a b c d e f g els (k+1)=match okO a b c f g k [.int .i64 kd,.bool fl,.int .i64 sg,.int .i64 sl,.int .i64 sf,.int .i64 nm,.int .i64 sd,.int .i64 pr,.int .i64 le,.int .i64 un] with
       | none=>none
       | some (v,u)=>some ((ws.set (2*k) [.int .u64 v]).set (2*k+1) [.int .u64 u],SS.set k (ordS [.int .i64 kd,.bool fl,.int .i64 sg,.int .i64 sl,.int .i64 sf,.int .i64 nm,.int .i64 sd,.int .i64 pr,.int .i64 le,.int .i64 un]),T.set k (ordT [.int .i64 kd,.bool fl,.int .i64 sg,.int .i64 sl,.int .i64 sf,.int .i64 nm,.int .i64 sd,.int .i64 pr,.int .i64 le,.int .i64 un])):=by
       simp only[bothZ,hb,hgd]
       cases okO a b c f g k [.int .i64 kd,.bool fl,.int .i64 sg,.int .i64 sl,.int .i64 sf,.int .i64 nm,.int .i64 sd,.int .i64 pr,.int .i64 le,.int .i64 un] with
       | none=>rfl
       | some p=>rfl
      have hnn:okO a b c f g k [.int .i64 kd,.bool fl,.int .i64 sg,.int .i64 sl,.int .i64 sf,.int .i64 nm,.int .i64 sd,.int .i64 pr,.int .i64 le,.int .i64 un]=none→bothZ a b c d e f g els els.length=none:=fun h=>by
       rw[h]at hsucc
       have:=both_none hsucc (els.length - (k+1))
       rwa [show k+1+(els.length - (k+1))=els.length from by omega]at this
      obtain ⟨v,e1,hl6,hv1,hv2⟩:∃ v e1:Int,d45 [.agg [.int .i64 kd,.bool fl,.int .i64 sg,.int .i64 sl,.int .i64 sf]] []=some (.tup [.int .u64 v,.int .i64 e1])∧(e1=0→wordS ⟨kd,fl,sg,sl,sf⟩=some v)∧(e1≠0→wordS ⟨kd,fl,sg,sl,sf⟩=none):=by
       cases h:wordS ⟨kd,fl,sg,sl,sf⟩ with
       | none=>exact ⟨0,5,by rw[hl6',h];rfl,by simp,by simp⟩
       | some v=>exact ⟨v,0,by rw[hl6',h];rfl,by simp,by simp⟩
      obtain ⟨u,e2,hl7,hu1,hu2⟩:∃ v e1:Int,d46 [.agg [.int .i64 nm,.int .i64 sd,.int .i64 pr,.int .i64 le,.int .i64 un]] []=some (.tup [.int .u64 v,.int .i64 e1])∧(e1=0→wordT ⟨nm,sd,pr,le,un⟩=some v)∧(e1≠0→wordT ⟨nm,sd,pr,le,un⟩=none):=by
       cases h:wordT ⟨nm,sd,pr,le,un⟩ with
       | none=>exact ⟨0,5,by rw[hl7',h];rfl,by simp,by simp⟩
       | some v=>exact ⟨v,0,by rw[hl7',h];rfl,by simp,by simp⟩
      clear hl6' hl7'
      have hno1:¬ (k:Int)<a*b→bothZ a b c d e f g els els.length=none:=fun hh=>hnn (by
       simp only[okO]
       split
       ·rw[if_neg (fun h=>hh h.1)]
       ·rfl)
      by_cases h1:(k:Int)<a*b
      case neg=>exact b9_1 hE hS hTe hCe hkI hrow2 hSl hmx h48 h47 hl6 hl7 (hno1 h1) (by omega)
      have p1:¬ a*b≤(k:Int):=by omega
      by_cases he1:e1=0
      case neg=>exact b9_2 hE hS hTe hCe hkI hrow2 hSl hmx h48 h47 hl6 hl7 (hnn (by simp only[okO,hv2 he1])) p1 he1
      subst he1
      have hwS:=hv1 rfl
      by_cases he2:e2=0
      case neg=>exact b9_3 hE hS hTe hCe hkI hrow2 hSl hmx h48 h47 hl6 hl7 (hnn (by simp only[okO,hu2 he2,hwS])) p1 he2
      subst he2
      have hwT:=hu1 rfl
      have hv:=wordS_in hwS
      have hu:=wordT_in hwT
      have hno:¬ ((k:Int)<a*b∧1≤sg∧sg≤g∧1≤sl∧sf<f∧(looseZ kd=true∨5≤kd)∧fl=false∧chk=0)→bothZ a b c d e f g els els.length=none:=fun hh=>hnn (by
       simp only[okO,hwS,hwT,hmx,hchk]
       rw[if_neg hh])
      by_cases h2:1≤sg
      case neg=>exact b9_4 hE hS hTe hCe hkI hrow2 hSl hmx h48 h47 hl6 hl7 (hno fun h=>h2 h.2.1) p1 (by omega)
      have p2:¬ sg<1:=by omega
      by_cases h3:sg≤g
      case neg=>exact b9_5 hE hS hTe hCe hkI hrow2 hSl hmx h48 h47 hl6 hl7 (hno fun h=>h3 h.2.2.1) p1 p2 (by omega)
      have p3:¬ g<sg:=by omega
      by_cases h4:1≤sl
      case neg=>exact b9_6 hE hS hTe hCe hkI hrow2 hSl hmx h48 h47 hl6 hl7 (hno fun h=>h4 h.2.2.2.1) p1 p2 p3 (by omega)
      have p4:¬ sl<1:=by omega
      by_cases h5:sf<f
      case neg=>exact b9_7 hE hS hTe hCe hkI hrow2 hSl hmx h48 h47 hl6 hl7 (hno fun h=>h5 h.2.2.2.2.1) p1 p2 p3 p4 (by omega)
      have p5:¬ f≤sf:=by omega
      by_cases h6:looseZ kd=true∨5≤kd
      case neg =>
       have l2:looseZ kd=false:=by
        cases h:looseZ kd
        ·rfl
        ·exact absurd (.inl h) h6
       exact b9_8 hE hS hTe hCe hkI hrow2 hSl hmx h48 h47 hl6 hl7 (hno fun h=>h6 h.2.2.2.2.2.1) p1 p2 p3 p4 p5 l2 (by have:=fun h=>h6 (.inr h);omega)
      cases fl
      case true =>
       have hnone:=hno fun h=>by simp at h
       by_cases l1:looseZ kd=true
       ·exact b9_9a hE hS hTe hCe hkI hrow2 hSl hmx h48 h47 hl6 hl7 hnone p1 p2 p3 p4 p5 l1
       ·exact b9_9b hE hS hTe hCe hkI hrow2 hSl hmx h48 h47 hl6 hl7 hnone p1 p2 p3 p4 p5 (by simpa using l1) (by have:=h6.resolve_left l1;omega)
      by_cases h8:chk=0
      case neg =>
       have hnone:=hno fun h=>h8 h.2.2.2.2.2.2.2
       by_cases l1:looseZ kd=true
       ·exact b9_10a hE hS hTe hCe hkI hrow2 hSl hmx h48 h47 hl6 hl7 hnone p1 p2 p3 p4 p5 l1 h8
       ·exact b9_10b hE hS hTe hCe hkI hrow2 hSl hmx h48 h47 hl6 hl7 hnone p1 p2 p3 p4 p5 (by simpa using l1) (by have:=h6.resolve_left l1;omega) h8
      have hyes:bothZ a b c d e f g els (k+1)=some ((ws.set (2*k) [.int .u64 v]).set (2*k+1) [.int .u64 u],SS.set k [.int .i64 kd,.bool false,.int .i64 sg,.int .i64 sl,.int .i64 sf],T.set k [.int .i64 nm,.int .i64 sd,.int .i64 pr,.int .i64 le,.int .i64 un]):=by
       rw[hsucc]
       simp only[okO,hwS,hwT,hmx,hchk]
       rw[if_pos ⟨h1,h2,h3,h4,h5,h6,by first|trivial|rfl,h8⟩]
       rfl
      clear hsucc hnn hno hno1
      have e1:(2*(k:Int)).toNat=2*k:=by omega
      have e2:(2*(k:Int)+1).toNat=2*k+1:=by omega
      have hkW:2*(k:Int)<ws.length:=by rw[hwl];omega
      have hkW2:2*(k:Int)+1<ws.length:=by rw[hwl];omega
      obtain ⟨ws1,hws1⟩:∃ z,ws.set (2*k) [AV.int .u64 v]=z:=⟨_,rfl⟩
      obtain ⟨ws2,hws2⟩:∃ z,ws1.set (2*k+1) [AV.int .u64 u]=z:=⟨_,rfl⟩
      have hi1:ws1.all isW=true:=by rw[← hws1];exact w_set hw hv.1 hv.2 _
      have hi2:ws2.all isW=true:=by rw[← hws2];exact w_set hi1 hu.1 hu.2 _
      have hl1:ws1.length=ws.length:=by rw[← hws1,List.length_set]
      have h49a:∀ t1 t2,d49 [.op t1 [.os t2 1 ws,.int .i64 (2*(k:Int)),.bot,.bot,.bot,.bot,.bot],.int .i64 (2*(k:Int)),.int .u64 v]=some ⟨.raw .nilIface,[.cells 0 [.os 0 1 ws1,.int .i64 (2*(k:Int)+1),.bot,.bot,.bot,.bot,.bot]]⟩:=fun t1 t2=>by
       simp only[d49]
       rw[if_pos ⟨hw,by omega,by omega,hv.1,hv.2⟩,if_neg (by omega),if_neg (by omega),e1,hws1]
      have h49b:∀ t1 t2,d49 [.op t1 [.os t2 1 ws1,.int .i64 (2*(k:Int)+1),.bot,.bot,.bot,.bot,.bot],.int .i64 (2*(k:Int)+1),.int .u64 u]=some ⟨.raw .nilIface,[.cells 0 [.os 0 1 ws2,.int .i64 (2*(k:Int)+1+1),.bot,.bot,.bot,.bot,.bot]]⟩:=fun t1 t2=>by
       simp only[d49]
       rw[if_pos ⟨hi1,by omega,by omega,hu.1,hu.2⟩,if_neg (by omega),if_neg (by omega),e2,hws2]
      rw[hws1,hws2]at hyes
      have tk1:k<SS.length:=by rw[hSn];omega
      have tk2:k<T.length:=by rw[hTn];omega
      have tk3:(k:Int)≤1000:=by omega
      by_cases l1:looseZ kd=true
      ·exact b9_a hE hS hTe hCe hkI hrow2 hSl hmx h48 h47 hl6 hl7 hcf hkl hTw hCw hTS hCS hTT hCT (w_t0 hi1) (w_cl hi1) (w_t0 hi2) (w_cl hi2) tk1 tk2 tk3 hS5 hT5 h49a h49b hyes p1 p2 p3 p4 p5 l1 h8
      ·exact b9_b hE hS hTe hCe hkI hrow2 hSl hmx h48 h47 hl6 hl7 hcf hkl hTw hCw hTS hCS hTT hCT (w_t0 hi1) (w_cl hi1) (w_t0 hi2) (w_cl hi2) tk1 tk2 tk3 hS5 hT5 h49a h49b hyes p1 p2 p3 p4 p5 (by simpa using l1) (by have:=h6.resolve_left l1;omega) h8
     ·have hke:k=els.length:=by omega
      subst hke
      simp only[I9]
      have hkI:¬ ((els.length:Int)<(els.length:Int)):=by omega
      repeat' with_reducible (first
       | refine ZR.h ?_ | refine zI (by decide) ?_
       | (refine wregX (mos:=q9_13) hE x9_13 (by kernel_rfl) xe9_13 ?_;intro K hK;rw[x9_13];rw[ecX_cons];simp[q9_13s0,hkI,d42,d27,d50,d51];rw[ecX_cons];simp[q9_13s1,hkI,d42,d27,d50,d51];rw[ecX_cons];simp[q9_13s2,hkI,d42,d27,d50,d51];rw[ecX_cons];simp[q9_13s3,hkI,d42,d27,d50,d51];rw[ecX_cons];simp[q9_13s4,hkI,d42,d27,d50,d51];rw[ecX_cons];simp[q9_13s5,hkI,d42,d27,d50,d51];rw[ecX_nil];(repeat' (first | refine hK _ _ ?_ | refine And.intro ?_ ?_ | (intro hc;try subst hc)))<;>(try clear hK K))
       | ((first | refine zK hE ?_ | refine zL hE mixT ?_);intro K hK;simp[KR.ks,KD.ks,KD.cl,q9_0,q9_1,q9_2,q9_3,q9_4,q9_5,q9_6,q9_7,q9_8,q9_9,q9_10,q9_11,q9_12,q9_14,q9_15,q9_16,q9_17,q9_18,q9_19,hkI,d42,d27,d50,d51];(repeat' (first | refine hK _ _ ?_ | refine And.intro ?_ ?_ | (intro hc;try subst hc)))<;>(try clear hK K))
       | (refine zJ (b:=_) (by with_unfolding_all rfl) (fun hc=>?_) (fun hc=>?_)<;>simp at hc<;>(try subst hc)))
      all_goals first|(simp;done)|((try simp[hb,bothA,wzC,qC,hTw,hCw,hTS,hCS,hTT,hCT,hTe,hCe]);refine Imp.auto (by kernel_rfl) ?_ ?_<;>simp[NLe,mkPlX,hTw,hCw,hTS,hCS,hTT,hCT,hTe,hCe,hb,bothA,wzC,qC])
   ·rw[if_neg hcf]
    have hck:checkZ a b c d e f g≠-1:=fun h=>hcf ((check_cfg a b c d e f g).mp h)
    have hcf2:cfgB a b c d e f g=false:=by simpa using hcf
    unfold m9
    repeat' with_reducible (first
     | refine ZR.h ?_ | refine zI (by decide) ?_
     | (refine wregX (mos:=q9_13) hE x9_13 (by kernel_rfl) xe9_13 ?_;intro K hK;rw[x9_13];rw[ecX_cons];simp[q9_13s0,hck,hcf2,hTe,hCe,d42,d27,d50,d51];rw[ecX_cons];simp[q9_13s1,hck,hcf2,hTe,hCe,d42,d27,d50,d51];rw[ecX_cons];simp[q9_13s2,hck,hcf2,hTe,hCe,d42,d27,d50,d51];rw[ecX_cons];simp[q9_13s3,hck,hcf2,hTe,hCe,d42,d27,d50,d51];rw[ecX_cons];simp[q9_13s4,hck,hcf2,hTe,hCe,d42,d27,d50,d51];rw[ecX_cons];simp[q9_13s5,hck,hcf2,hTe,hCe,d42,d27,d50,d51];rw[ecX_nil];(repeat' (first | refine hK _ _ ?_ | refine And.intro ?_ ?_ | (intro hc;try subst hc)))<;>(try clear hK K))
     | ((first | refine zK hE ?_ | refine zL hE mixT ?_);intro K hK;simp[KR.ks,KD.ks,KD.cl,q9_0,q9_1,q9_2,q9_3,q9_4,q9_5,q9_6,q9_7,q9_8,q9_9,q9_10,q9_11,q9_12,q9_14,q9_15,q9_16,q9_17,q9_18,q9_19,hck,hcf2,hTe,hCe,d42,d27,d50,d51];(repeat' (first | refine hK _ _ ?_ | refine And.intro ?_ ?_ | (intro hc;try subst hc)))<;>(try clear hK K))
     | (refine zJ (b:=_) (by with_unfolding_all rfl) (fun hc=>?_) (fun hc=>?_)<;>simp at hc<;>(try subst hc)))
    all_goals first|(simp;done)|(simp at *;omega)|((try simp[hTe,hCe]);refine Imp.auto (by kernel_rfl) ?_ ?_<;>simp[NLe,hTe,hCe])
  ·cases h
 ·cases h
end Go.W

namespace Go.W
open Go.Proofs
set_option linter.unusedSimpArgs false
set_option linter.unusedVariables false
set_option maxHeartbeats 8000000
attribute [local irreducible] Wm
attribute [local simp] nmap lkp mkPl prs prsL prT ddL idL CRenL CRen Ren RenL NObj.none CRenLL
def d79:List AV→Option Ans
 | [.op _ tc,.op _ wc]=>(match tzOf tc,wzOf wc with
  | some T,some W=>if okT T=true∧okW W=true∧smW W=true∧idleT W T=false then some (⟨.tup [],[.cells 0 (tzC (lookT W T).1),.cells 0 (wzC (lookT W T).2)]⟩) else none
  | _,_=>none)
 | _=>none
theorem ok79:NOk [(35,true),(10,true)] d79:=by
 intro xs aa h
 unfold d79 at h
 split at h
 ·rename_i t1 tc t2 wc
  split at h
  ·rename_i T W hTc hWc
   split at h
   ·rename_i hc
    obtain ⟨u1,u2,u3,u4,rfl⟩:=wzOf_ex hWc
    obtain rfl:=tzOf_ex hTc
    injection h with h;subst h
    have hW:=hc.2.1
    obtain ⟨hcf,hw,hwl,hs0,ht0,ht1,hlg⟩:=okW_ex hW
    have hT:=w_t0 hw
    have hC:=w_cl hw
    have hTl:=l_t0 hlg
    have hCl:=l_cl hlg
    have hW2:=look_ok hW T
    obtain ⟨hcf2,hw2,hwl2,hs02,ht02,ht12,hlg2⟩:=okW_ex hW2
    have hT2:=w_t0 hw2
    have hC2:=w_cl hw2
    have hTl2:=l_t0 hlg2
    have hCl2:=l_cl hlg2
    refine ⟨Ends_of ?_,?_⟩<;>simp[tzC,wzL,wzC,hT,hC,hTl,hCl,hT2,hC2,hTl2,hCl2]
   ·cases h
  ·cases h
 ·cases h
theorem s79:Sound Try.prog 79 (nestS [(35,true),(10,true)] d79 ok79):=by
 refine nest_sound Try.func79 nm79 rc79 rv79 ok79 (fun xs a h=>?_) fun xs a h w0 S hS=>?_
 ·unfold d79 at h
  (repeat' (split at h))<;>first|(cases h;done)|exact Nat.le_of_ble_eq_true rfl
 unfold d79 at h
 split at h
 ·rename_i t1 tc t2 wc
  split at h
  ·rename_i T W hTc hWc
   split at h
   ·rename_i hcond
    obtain ⟨u1,u2,u3,u4,rfl⟩:=wzOf_ex hWc
    obtain rfl:=tzOf_ex hTc
    injection h with h
    subst h
    clear hTc hWc
    have hE:SoundAll Try.prog (EL [(14,nestS [(10,true)] d14 ok14)]):=EL_sound (by simp only[List.mem_cons,List.not_mem_nil,or_false,forall_eq_or_imp,forall_eq];exact s14)
    obtain ⟨hokT,hW,hsm,hid⟩:=hcond
    obtain ⟨hpc0,hpc1,hx0,hx1,hy0,hy1,htx0,htx1,hty0,hty1,hq0,hq1,hp0,hp1,hta0,hta1,hen0,hen1,hnx,hny⟩:=okT_ex hokT
    obtain ⟨hcf,hw,hwl,hs0,ht0,ht1,hlg⟩:=okW_ex hW
    have hlo:=smW_lo hsm
    obtain ⟨hsm1,hsm2⟩:=smW_ex hsm
    obtain ⟨hX0,hX1,hY0,hY1,hAB⟩:=idle_in hW hid
    have hT:=w_t0 hw
    have hC:=w_cl hw
    have hTl:=l_t0 hlg
    have hCl:=l_cl hlg
    have h14:=e14 hW hlo hX0 hX1
    simp only[tzC,wzL,wzC,stA,tmA,tmC,rcA,evC]at h14
    by_cases h1:T.held=true
    ·by_cases h2:T.free=false
     ·have hh:lookT W T=({ T with wx:=sAt W T.x },tickW W):=by unfold lookT;rw[if_pos ⟨h1,h2⟩]
      rw[hh]
      simp only[tzC,wzL,wzC,tickW]at hS h14⊢
      unfold m79
      repeat' with_reducible (first
       | refine ZR.h ?_ | refine zI (by decide) ?_
       | (refine zK hE ?_;intro K hK;simp[KR.ks,q79_0,q79_1,hT,hC,hTl,hCl,h1,h2,h14];(repeat' (first | refine hK _ _ ?_ | refine And.intro ?_ ?_ | (intro hc;try subst hc)))<;>(try clear hK K))
       | (refine zJ (b:=_) (by with_unfolding_all rfl) (fun hc=>?_) (fun hc=>?_)<;>simp at hc<;>(try subst hc)))
      all_goals first|(simp;done)|(simp at *;omega)|((try simp[hT,hC,hTl,hCl,h1,h2]);refine Imp.auto (by kernel_rfl) ?_ ?_<;>simp[NLe,hT,hC,hTl,hCl,h1,h2])
     ·have h2:T.free=true:=by simpa using h2
      have hh:lookT W T=(T,W):=by unfold lookT;rw[if_neg (by simp[h2])]
      rw[hh]
      simp only[tzC,wzL,wzC]at hS⊢
      unfold m79
      repeat' with_reducible (first
       | refine ZR.h ?_ | refine zI (by decide) ?_
       | (refine zK hE ?_;intro K hK;simp[KR.ks,q79_0,q79_1,hT,hC,hTl,hCl,h1,h2];(repeat' (first | refine hK _ _ ?_ | refine And.intro ?_ ?_ | (intro hc;try subst hc)))<;>(try clear hK K))
       | (refine zJ (b:=_) (by with_unfolding_all rfl) (fun hc=>?_) (fun hc=>?_)<;>simp at hc<;>(try subst hc)))
      all_goals first|(simp;done)|(simp at *;omega)|((try simp[hT,hC,hTl,hCl,h1,h2]);refine Imp.auto (by kernel_rfl) ?_ ?_<;>simp[NLe,hT,hC,hTl,hCl,h1,h2])
    ·have h1:T.held=false:=by simpa using h1
     have hh:lookT W T=(T,W):=by unfold lookT;rw[if_neg (by simp[h1])]
     rw[hh]
     simp only[tzC,wzL,wzC]at hS⊢
     unfold m79
     repeat' with_reducible (first
      | refine ZR.h ?_ | refine zI (by decide) ?_
      | (refine zK hE ?_;intro K hK;simp[KR.ks,q79_0,q79_1,hT,hC,hTl,hCl,h1];(repeat' (first | refine hK _ _ ?_ | refine And.intro ?_ ?_ | (intro hc;try subst hc)))<;>(try clear hK K))
      | (refine zJ (b:=_) (by with_unfolding_all rfl) (fun hc=>?_) (fun hc=>?_)<;>simp at hc<;>(try subst hc)))
     all_goals first|(simp;done)|(simp at *;omega)|((try simp[hT,hC,hTl,hCl,h1]);refine Imp.auto (by kernel_rfl) ?_ ?_<;>simp[NLe,hT,hC,hTl,hCl,h1])
   ·cases h
  ·cases h
 ·cases h
def d77:List AV→Option Ans
 | [.op _ tc,.op _ wc]=>(match tzOf tc,wzOf wc with
  | some T,some W=>if okT T=true∧okW W=true∧smW W=true∧idleT W T=false then some (⟨.tup [],[.cells 0 (tzC (holdT W T).1),.cells 0 (wzC (holdT W T).2)]⟩) else none
  | _,_=>none)
 | _=>none
theorem ok77:NOk [(35,true),(10,true)] d77:=by
 intro xs aa h
 unfold d77 at h
 split at h
 ·rename_i t1 tc t2 wc
  split at h
  ·rename_i T W hTc hWc
   split at h
   ·rename_i hc
    obtain ⟨u1,u2,u3,u4,rfl⟩:=wzOf_ex hWc
    obtain rfl:=tzOf_ex hTc
    injection h with h;subst h
    have hW:=hc.2.1
    obtain ⟨hcf,hw,hwl,hs0,ht0,ht1,hlg⟩:=okW_ex hW
    have hT:=w_t0 hw
    have hC:=w_cl hw
    have hTl:=l_t0 hlg
    have hCl:=l_cl hlg
    have hW2:=hold_ok hW T
    obtain ⟨hcf2,hw2,hwl2,hs02,ht02,ht12,hlg2⟩:=okW_ex hW2
    have hT2:=w_t0 hw2
    have hC2:=w_cl hw2
    have hTl2:=l_t0 hlg2
    have hCl2:=l_cl hlg2
    refine ⟨Ends_of ?_,?_⟩<;>simp[tzC,wzL,wzC,hT,hC,hTl,hCl,hT2,hC2,hTl2,hCl2]
   ·cases h
  ·cases h
 ·cases h
theorem s77:Sound Try.prog 77 (nestS [(35,true),(10,true)] d77 ok77):=by
 refine nest_sound Try.func77 nm77 rc77 rv77 ok77 (fun xs a h=>?_) fun xs a h w0 S hS=>?_
 ·unfold d77 at h
  (repeat' (split at h))<;>first|(cases h;done)|exact Nat.le_of_ble_eq_true rfl
 unfold d77 at h
 split at h
 ·rename_i t1 tc t2 wc
  split at h
  ·rename_i T W hTc hWc
   split at h
   ·rename_i hcond
    obtain ⟨u1,u2,u3,u4,rfl⟩:=wzOf_ex hWc
    obtain rfl:=tzOf_ex hTc
    injection h with h
    subst h
    clear hTc hWc
    have hE:SoundAll Try.prog (EL [(55,rdS d55 ok55),(92,nestS [(35,false),(10,false)] d92 ok92),(93,rdS d93 ok93),(26,nestS [(10,true)] d26 ok26)]):=EL_sound (by simp only[List.mem_cons,List.not_mem_nil,or_false,forall_eq_or_imp,forall_eq];exact ⟨s55,s92,s93,s26⟩)
    obtain ⟨hokT,hW,hsm,hid⟩:=hcond
    obtain ⟨hpc0,hpc1,hx0,hx1,hy0,hy1,htx0,htx1,hty0,hty1,hq0,hq1,hp0,hp1,hta0,hta1,hen0,hen1,hnx,hny⟩:=okT_ex hokT
    obtain ⟨hcf,hw,hwl,hs0,ht0,ht1,hlg⟩:=okW_ex hW
    have hlo:=smW_lo hsm
    obtain ⟨hsm1,hsm2⟩:=smW_ex hsm
    obtain ⟨hX0,hX1,hY0,hY1,hAB⟩:=idle_in hW hid
    have hT:=w_t0 hw
    have hC:=w_cl hw
    have hTl:=l_t0 hlg
    have hCl:=l_cl hlg
    have hsx:=stateZ_ok T.wx
    have h55:d55 [.int .u64 T.wx] []=some (stA (stateZ T.wx)):=by simp only[d55];rw[if_pos ⟨hx0,hx1⟩]
    have hh:holdT W T=if wantsT W T (stateZ T.wx)=true then ({ T with held:=(turnW W T.x T.wx (holdS (stateZ T.wx))).1 },(turnW W T.x T.wx (holdS (stateZ T.wx))).2) else (T,W):=rfl
    obtain ⟨sx,hsxe⟩:∃ z,stateZ T.wx=z:=⟨_,rfl⟩
    rw[hsxe]at hsx h55 hh
    have h93:d93 [stA sx] []=some (stA (holdS sx)):=rfl
    have hs3:=hold_okS hsx
    have h92:=e92 hW T sx
    have h26:=e26 hW hlo hX0 hX1 T.wx hs3
    obtain ⟨s3,hs3e⟩:∃ z,holdS sx=z:=⟨_,rfl⟩
    rw[hs3e]at h93 hs3 h26 hh
    have hW2:=turn_ok hW T.x T.wx s3
    obtain ⟨r,hr⟩:∃ z,turnW W T.x T.wx s3=z:=⟨_,rfl⟩
    rw[hr]at h26 hW2 hh
    obtain ⟨hcf2,hw2,hwl2,hs02,ht02,ht12,hlg2⟩:=okW_ex hW2
    have hT2:=w_t0 hw2
    have hC2:=w_cl hw2
    have hTl2:=l_t0 hlg2
    have hCl2:=l_cl hlg2
    simp only[tzC,wzL,wzC,stA]at h55 h93 h92 h26
    by_cases h1:wantsT W T sx=true
    ·rw[if_pos h1]at hh
     rw[hh]
     rw[h1]at h92
     simp only[tzC,wzL,wzC]at hS⊢
     unfold m77
     repeat' with_reducible (first
      | refine ZR.h ?_ | refine zI (by decide) ?_
      | ((first | refine zK hE ?_ | refine zL hE mixT ?_);intro K hK;simp[KR.ks,KD.ks,KD.cl,q77_0,q77_1,q77_2,hT,hC,hTl,hCl,hT2,hC2,hTl2,hCl2,h55,h92,h93,h26];(repeat' (first | refine hK _ _ ?_ | refine And.intro ?_ ?_ | (intro hc;try subst hc)))<;>(try clear hK K))
      | (refine zJ (b:=_) (by with_unfolding_all rfl) (fun hc=>?_) (fun hc=>?_)<;>simp at hc<;>(try subst hc)))
     all_goals first|(simp;done)|(simp at *;omega)|((try simp[hT,hC,hTl,hCl,hT2,hC2,hTl2,hCl2]);refine Imp.auto (by kernel_rfl) ?_ ?_<;>simp[NLe,hT,hC,hTl,hCl,hT2,hC2,hTl2,hCl2])
    ·rw[if_neg h1]at hh
     rw[hh]
     have h1:wantsT W T sx=false:=by simpa using h1
     rw[h1]at h92
     simp only[tzC,wzL,wzC]at hS⊢
     unfold m77
     repeat' with_reducible (first
      | refine ZR.h ?_ | refine zI (by decide) ?_
      | ((first | refine zK hE ?_ | refine zL hE mixT ?_);intro K hK;simp[KR.ks,KD.ks,KD.cl,q77_0,q77_1,q77_2,hT,hC,hTl,hCl,hT2,hC2,hTl2,hCl2,h55,h92];(repeat' (first | refine hK _ _ ?_ | refine And.intro ?_ ?_ | (intro hc;try subst hc)))<;>(try clear hK K))
      | (refine zJ (b:=_) (by with_unfolding_all rfl) (fun hc=>?_) (fun hc=>?_)<;>simp at hc<;>(try subst hc)))
     all_goals first|(simp;done)|(simp at *;omega)|((try simp[hT,hC,hTl,hCl,hT2,hC2,hTl2,hCl2]);refine Imp.auto (by kernel_rfl) ?_ ?_<;>simp[NLe,hT,hC,hTl,hCl,hT2,hC2,hTl2,hCl2])
   ·cases h
  ·cases h
 ·cases h
end Go.W

namespace Go.W
open Go.Proofs
set_option linter.unusedSimpArgs false
set_option linter.unusedVariables false
set_option maxHeartbeats 8000000
attribute [local irreducible] Wm
attribute [local simp] nmap lkp mkPl prs prsL prT ddL idL CRenL CRen Ren RenL NObj.none CRenLL
def d78:List AV→Option Ans
 | [.op _ tc,.op _ wc]=>(match tzOf tc,wzOf wc with
  | some T,some W=>if okT T=true∧okW W=true∧smW W=true∧idleT W T=false then some (⟨.tup [],[.cells 0 (tzC (takeT W T).1),.cells 0 (wzC (takeT W T).2)]⟩) else none
  | _,_=>none)
 | _=>none
theorem ok78:NOk [(35,true),(10,true)] d78:=by
 intro xs aa h
 unfold d78 at h
 split at h
 ·rename_i t1 tc t2 wc
  split at h
  ·rename_i T W hTc hWc
   split at h
   ·rename_i hc
    obtain ⟨u1,u2,u3,u4,rfl⟩:=wzOf_ex hWc
    obtain rfl:=tzOf_ex hTc
    injection h with h;subst h
    have hW:=hc.2.1
    obtain ⟨hcf,hw,hwl,hs0,ht0,ht1,hlg⟩:=okW_ex hW
    have hT:=w_t0 hw
    have hC:=w_cl hw
    have hTl:=l_t0 hlg
    have hCl:=l_cl hlg
    have hW2:=take_ok hW T
    obtain ⟨hcf2,hw2,hwl2,hs02,ht02,ht12,hlg2⟩:=okW_ex hW2
    have hT2:=w_t0 hw2
    have hC2:=w_cl hw2
    have hTl2:=l_t0 hlg2
    have hCl2:=l_cl hlg2
    refine ⟨Ends_of ?_,?_⟩<;>simp[tzC,wzL,wzC,hT,hC,hTl,hCl,hT2,hC2,hTl2,hCl2]
   ·cases h
  ·cases h
 ·cases h
theorem s78:Sound Try.prog 78 (nestS [(35,true),(10,true)] d78 ok78):=by
 refine nest_sound Try.func78 nm78 rc78 rv78 ok78 (fun xs a h=>?_) fun xs a h w0 S hS=>?_
 ·unfold d78 at h
  (repeat' (split at h))<;>first|(cases h;done)|exact Nat.le_of_ble_eq_true rfl
 unfold d78 at h
 split at h
 ·rename_i t1 tc t2 wc
  split at h
  ·rename_i T W hTc hWc
   split at h
   ·rename_i hcond
    obtain ⟨u1,u2,u3,u4,rfl⟩:=wzOf_ex hWc
    obtain rfl:=tzOf_ex hTc
    injection h with h
    subst h
    clear hTc hWc
    have hE:SoundAll Try.prog (EL [(55,rdS d55 ok55),(94,nestS [(35,false),(10,false)] d94 ok94),(95,rdS d95 ok95),(96,rdS d96 ok96),(26,nestS [(10,true)] d26 ok26),(24,nestS [(1,false)] d24 ok24),(23,nestS [(10,true)] d23 ok23)]):=EL_sound (by simp only[List.mem_cons,List.not_mem_nil,or_false,forall_eq_or_imp,forall_eq];exact ⟨s55,s94,s95,s96,s26,s24,s23⟩)
    obtain ⟨hokT,hW,hsm,hid⟩:=hcond
    obtain ⟨hpc0,hpc1,hx0,hx1,hy0,hy1,htx0,htx1,hty0,hty1,hq0,hq1,hp0,hp1,hta0,hta1,hen0,hen1,hnx,hny⟩:=okT_ex hokT
    obtain ⟨hcf,hw,hwl,hs0,ht0,ht1,hlg⟩:=okW_ex hW
    have hlo:=smW_lo hsm
    obtain ⟨hsm1,hsm2⟩:=smW_ex hsm
    obtain ⟨hX0,hX1,hY0,hY1,hAB⟩:=idle_in hW hid
    have hT:=w_t0 hw
    have hC:=w_cl hw
    have hTl:=l_t0 hlg
    have hCl:=l_cl hlg
    have hsx:=stateZ_ok T.wx
    have hsy:=stateZ_ok T.wy
    have h55:d55 [.int .u64 T.wx] []=some (stA (stateZ T.wx)):=by simp only[d55];rw[if_pos ⟨hx0,hx1⟩]
    have h55y:d55 [.int .u64 T.wy] []=some (stA (stateZ T.wy)):=by simp only[d55];rw[if_pos ⟨hy0,hy1⟩]
    have hrx:=stR T.wx
    have hry:=stR T.wy
    have hnok:=fun q F=>take_okS T.wy q F
    have h94:=e94 hW T (stateZ T.wy)
    have hh:takeT W T=takeT W T:=rfl
    conv at hh=>rhs;unfold takeT
    obtain ⟨sx,hsxe⟩:∃ z,stateZ T.wx=z:=⟨_,rfl⟩
    obtain ⟨sy,hsye⟩:∃ z,stateZ T.wy=z:=⟨_,rfl⟩
    rw[hsxe]at hsx h55 hrx hh
    rw[hsye]at hsy h55y hry h94 hnok hh
    by_cases h1:T.held=true
    ·by_cases h2:findsT W T sy=true
     ·rw[h2]at h94
      simp only[tzC,h1]at h94
      rw[if_pos ⟨h1,h2⟩]at hh
      have hmi:=match_in htx0 htx1 hty0 hty1 (show sx.l≤1000000 by omega) (show sy.l≤1000000 by omega)
      have h95:d95 [tmA T.tx,tmA T.ty,.int .i64 sx.l,.int .i64 sy.l] []=some (.agg [.int .i64 (matchZ T.tx T.ty sx.l sy.l).1,.int .i64 (matchZ T.tx T.ty sx.l sy.l).2]):=by
       simp only[tmA,tmC,d95];rw[if_pos ⟨htx0,htx1,hty0,hty1⟩]
      obtain ⟨q,p,hm⟩:∃ q p,matchZ T.tx T.ty sx.l sy.l=(q,p):=⟨_,_,rfl⟩
      rw[hm]at hmi h95 hh
      simp only at hmi h95 hh
      have h96:d96 [stA sy,.int .i64 q,.int .i64 W.f] []=some (errA (takeS sy q W.f).1 (takeS sy q W.f).2):=by
       simp only[stA,d96];rw[if_pos ⟨by omega,by omega,by omega,by omega⟩]
      have hnk:=hnok q W.f
      obtain ⟨nx,e,hr⟩:∃ a b,takeS sy q W.f=(a,b):=⟨_,_,rfl⟩
      rw[hr]at h96 hnk hh
      simp only at h96 hnk hh
      by_cases h3:e=0
      ·rw[if_pos h3]at hh
       subst h3
       simp only[errA,if_true]at h96
       have h26:=e26 hW hlo hY0 hY1 T.wy hnk
       have hfr:=turn_fr W T.y T.wy nx
       have hW2:=turn_ok hW T.y T.wy nx
       obtain ⟨r,hrr⟩:∃ r,turnW W T.y T.wy nx=r:=⟨_,rfl⟩
       rw[hrr]at h26 hW2 hh hfr
       obtain ⟨tb,W2⟩:=r
       simp only at h26 hW2 hh hfr
       by_cases h4:tb=true
       ·rw[if_pos h4]at hh
        subst h4
        have hlo2:loW W2=true:=decide_eq_true (by rw[hfr.2.1];rcases hfr.1 with h|h<;>rw[h]<;>omega)
        have htt:W2.t=W.t:=hfr.2.2.1
        have h24:∀ u,d24 [.op u [.int .u64 W2.t]]=some ⟨.int .i64 W.t,[.free]⟩:=fun u=>by simp only[d24,htt];rw[if_pos ⟨ht0,ht1⟩]
        have h23:=e23 hW2 hlo2 2 T.x sx.g T.y sy.g q p 0 0
        have hW3:=tell_ok hW2 2 T.x sx.g T.y sy.g q p 0
        obtain ⟨W3,hw3e⟩:∃ z,tellW W2 2 T.x sx.g T.y sy.g q p 0=z:=⟨_,rfl⟩
        rw[hw3e]at h23 hW3 hh
        obtain ⟨hcf2,hw2,hwl2,hs02,ht02,ht12,hlg2⟩:=okW_ex hW2
        have hT2:=w_t0 hw2
        have hC2:=w_cl hw2
        have hTl2:=l_t0 hlg2
        have hCl2:=l_cl hlg2
        obtain ⟨hcf3,hw3,hwl3,hs03,ht03,ht13,hlg3⟩:=okW_ex hW3
        have hT3:=w_t0 hw3
        have hC3:=w_cl hw3
        have hTl3:=l_t0 hlg3
        have hCl3:=l_cl hlg3
        rw[hh]
        simp only[tzC,wzL,wzC,stA,tmA,tmC,evC]at hS h55 h55y h94 h95 h96 h26 h23⊢
        unfold m78
        repeat' with_reducible (first
         | refine ZR.h ?_ | refine zI (by decide) ?_
         | ((first | refine zK hE ?_ | refine zL hE mixT ?_);intro K hK;simp[KR.ks,KD.ks,KD.cl,q78_0,q78_1,q78_2,q78_3,q78_4,q78_5,q78_6,hT,hC,hTl,hCl,hT2,hC2,hTl2,hCl2,hT3,hC3,hTl3,hCl3,h1,h55,h55y,h94,h95,h96,h26,h23,h24];(repeat' (first | refine hK _ _ ?_ | refine And.intro ?_ ?_ | (intro hc;try subst hc)))<;>(try clear hK K))
         | (refine zJ (b:=_) (by with_unfolding_all rfl) (fun hc=>?_) (fun hc=>?_)<;>simp at hc<;>(try subst hc)))
        all_goals first|(simp;done)|(simp at *;omega)|((try simp[hT,hC,hTl,hCl,hT2,hC2,hTl2,hCl2,hT3,hC3,hTl3,hCl3,h1]);refine Imp.auto (by kernel_rfl) ?_ ?_<;>simp[NLe,hT,hC,hTl,hCl,hT2,hC2,hTl2,hCl2,hT3,hC3,hTl3,hCl3,h1])
       ·rw[if_neg h4]at hh
        have h4:tb=false:=by simpa using h4
        subst h4
        obtain ⟨hcf2,hw2,hwl2,hs02,ht02,ht12,hlg2⟩:=okW_ex hW2
        have hT2:=w_t0 hw2
        have hC2:=w_cl hw2
        have hTl2:=l_t0 hlg2
        have hCl2:=l_cl hlg2
        rw[hh]
        simp only[tzC,wzL,wzC,stA,tmA,tmC]at hS h55 h55y h94 h95 h96 h26⊢
        unfold m78
        repeat' with_reducible (first
         | refine ZR.h ?_ | refine zI (by decide) ?_
         | ((first | refine zK hE ?_ | refine zL hE mixT ?_);intro K hK;simp[KR.ks,KD.ks,KD.cl,q78_0,q78_1,q78_2,q78_3,q78_4,q78_5,q78_6,hT,hC,hTl,hCl,hT2,hC2,hTl2,hCl2,h1,h55,h55y,h94,h95,h96,h26];(repeat' (first | refine hK _ _ ?_ | refine And.intro ?_ ?_ | (intro hc;try subst hc)))<;>(try clear hK K))
         | (refine zJ (b:=_) (by with_unfolding_all rfl) (fun hc=>?_) (fun hc=>?_)<;>simp at hc<;>(try subst hc)))
        all_goals first|(simp;done)|(simp at *;omega)|((try simp[hT,hC,hTl,hCl,hT2,hC2,hTl2,hCl2,h1]);refine Imp.auto (by kernel_rfl) ?_ ?_<;>simp[NLe,hT,hC,hTl,hCl,hT2,hC2,hTl2,hCl2,h1])
      ·rw[if_neg h3]at hh
       simp only[errA,if_neg h3]at h96
       rw[hh]
       simp only[tzC,wzL,wzC,stA,tmA,tmC]at hS h55 h55y h94 h95 h96⊢
       unfold m78
       repeat' with_reducible (first
        | refine ZR.h ?_ | refine zI (by decide) ?_
        | ((first | refine zK hE ?_ | refine zL hE mixT ?_);intro K hK;simp[KR.ks,KD.ks,KD.cl,q78_0,q78_1,q78_2,q78_3,q78_4,q78_5,q78_6,hT,hC,hTl,hCl,h1,h55,h55y,h94,h95,h96];(repeat' (first | refine hK _ _ ?_ | refine And.intro ?_ ?_ | (intro hc;try subst hc)))<;>(try clear hK K))
        | (refine zJ (b:=_) (by with_unfolding_all rfl) (fun hc=>?_) (fun hc=>?_)<;>simp at hc<;>(try subst hc)))
       all_goals first|(simp;done)|(simp at *;omega)|((try simp[hT,hC,hTl,hCl,h1]);refine Imp.auto (by kernel_rfl) ?_ ?_<;>simp[NLe,hT,hC,hTl,hCl,h1])
     ·rw[if_neg (by simp[h2])]at hh
      have h2:findsT W T sy=false:=by simpa using h2
      rw[h2]at h94
      simp only[tzC,h1]at h94
      rw[hh]
      simp only[tzC,wzL,wzC,stA]at hS h55 h55y h94⊢
      unfold m78
      repeat' with_reducible (first
       | refine ZR.h ?_ | refine zI (by decide) ?_
       | ((first | refine zK hE ?_ | refine zL hE mixT ?_);intro K hK;simp[KR.ks,KD.ks,KD.cl,q78_0,q78_1,q78_2,q78_3,q78_4,q78_5,q78_6,hT,hC,hTl,hCl,h1,h55,h55y,h94];(repeat' (first | refine hK _ _ ?_ | refine And.intro ?_ ?_ | (intro hc;try subst hc)))<;>(try clear hK K))
       | (refine zJ (b:=_) (by with_unfolding_all rfl) (fun hc=>?_) (fun hc=>?_)<;>simp at hc<;>(try subst hc)))
      all_goals first|(simp;done)|(simp at *;omega)|((try simp[hT,hC,hTl,hCl,h1]);refine Imp.auto (by kernel_rfl) ?_ ?_<;>simp[NLe,hT,hC,hTl,hCl,h1])
    ·rw[if_neg (by simp[h1])]at hh
     have h1:T.held=false:=by simpa using h1
     rw[hh]
     simp only[tzC,wzL,wzC,stA]at hS h55 h55y⊢
     unfold m78
     repeat' with_reducible (first
      | refine ZR.h ?_ | refine zI (by decide) ?_
      | ((first | refine zK hE ?_ | refine zL hE mixT ?_);intro K hK;simp[KR.ks,KD.ks,KD.cl,q78_0,q78_1,q78_2,q78_3,q78_4,q78_5,q78_6,hT,hC,hTl,hCl,h1,h55,h55y];(repeat' (first | refine hK _ _ ?_ | refine And.intro ?_ ?_ | (intro hc;try subst hc)))<;>(try clear hK K))
      | (refine zJ (b:=_) (by with_unfolding_all rfl) (fun hc=>?_) (fun hc=>?_)<;>simp at hc<;>(try subst hc)))
     all_goals first|(simp;done)|(simp at *;omega)|((try simp[hT,hC,hTl,hCl,h1]);refine Imp.auto (by kernel_rfl) ?_ ?_<;>simp[NLe,hT,hC,hTl,hCl,h1])
   ·cases h
  ·cases h
 ·cases h
end Go.W

