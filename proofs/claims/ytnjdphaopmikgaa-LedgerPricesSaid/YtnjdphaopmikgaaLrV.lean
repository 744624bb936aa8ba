/- A part of the proofs about the pair's laws (LrQ, LrU, LrV). -/
import Derived.Test.YtnjdphaopmikgaaLaI
import Derived.Test.YtnjdphaopmikgaaLqC
import Derived.Test.YtnjdphaopmikgaaLrB
namespace Go.W
open Go.Proofs
set_option linter.unusedSimpArgs false
set_option linter.unusedVariables false
set_option maxHeartbeats 8000000
attribute [local irreducible] Wm
attribute [local simp] Yu lkp Ui prs Th prT ddL idL Yn U1 Ren Vz NObj.none ZZ
theorem X1 {C:CfE} {L:List EvZ} {os:List OrZ} (h:OkL C L os):∀ (k:Nat) (e:EvZ),L[k]?=some e→∃ os',OkL C (L.take k) os'∧ZE C (L.take k) e=0:=by
 induction h with
 | nil=>intro k e hk;simp at hk
 | @snoc L os e' h1 h2 ih =>
  intro k e hk;by_cases hl:k<L.length
  ·rw[List.getElem?_append_left hl]at hk
   rw[List.take_append_of_le_length (by omega)];exact ih k e hk
  ·rw[List.getElem?_append_right (by omega)]at hk
   have hkl:k=L.length:=by
    by_cases q:k - L.length=0
    ·omega
    ·rw[List.getElem?_eq_none (by simp only[List.length_cons,List.length_nil];omega)]at hk;cases hk
   subst hkl;rw[Nat.sub_self]at hk;injection hk with hk;subst hk;rw[List.take_append_of_le_length (Nat.le_refl _),List.take_of_length_le (Nat.le_refl _)];exact ⟨os,h1,h2⟩
theorem Ys {L:List EvZ} {k:Nat} {e:EvZ} (h:L[k]?=some e):L.take (k+1)=L.take k++[e]:=by
 rw[List.take_add_one,h];rfl
theorem x21 {M:MdZ} {e:EvZ} {os2:List OrZ} (h:doX M e=some os2) (hn:M.now≤e.tk) (u:Nat):d21 [.op u (mdC M),.agg (evR e)]=some ⟨.raw .nilIface,[.cells 0 (mdC { M with os:=os2,now:=e.tk })]⟩:=by
 simp only[d21,Yh,Yb,h];rw[if_pos hn]
theorem x22 {Z:LgZ} {M:MdZ} {x y:OrZ} {e:EvZ} {i j:Nat} (h1:ZC e.c e.g M.os=some i) (h2:ZC e.o e.w M.os=some j) (h3:M.os[i]?=some x) (h4:M.os[j]?=some y) (h:FilOK Z M x y e) (u u':Nat):d22 [.op u (lgC Z),.op u' (mdC M),.agg (evR e)]=some ⟨.tup [],[.cells 0 (lgC (xE Z x y e)),.free]⟩:=by
 simp only[d22,Yh,Yb,X8,h1,h2,h3,h4];rw[if_pos h]
def I8 (a b c d e1 f g:Int) (L:List EvZ) (x:Nat×List OrZ):St:=⟨[(6,.ptr (.top 1) 0 0),(7,.ptr (.top 2) 0 0),(15,.sl (.top 0) 0 L.length),(16,.int .i64 L.length),(17,.int .i64 x.1)],[(0,.view 0 14 (Zy L)),(1,.cells 0 (lgC (lgM a b c d e1 f g (L.take x.1)))),(2,.cells 0 (mdC ⟨a,b,c,d,e1,f,g,x.2,ZS (L.take x.1)⟩))],3⟩
open Classical in
noncomputable def d8:List AV→Option Ans
 | [.agg [.int .i64 a,.int .i64 b,.int .i64 c,.int .i64 d,.int .i64 e1,.int .i64 f,.int .i64 g],.os _ 14 els]=>(match Xm YO els with
  | some L=>if VA a b c d e1 f g=true∧L.length≤1000∧∃ os,OkL (cfC a b c f g) L os then some ⟨.tup [.op 0 (lgC (lgM a b c d e1 f g L)),.raw .nilIface],[.free]⟩ else none
  | none=>none)
 | _=>none
theorem ok8:NOk [(14,false)] d8:=by
 intro xs aa h;unfold d8 at h;split at h
 ·split at h
  ·rename_i L hL
   obtain rfl:=ZI (g:=evR) (fun _ _=>ZD) hL;split at h
   ·injection h with h;subst h;refine ⟨Zz ?_,?_⟩<;>simp[Uu,UG]
   ·cases h
  ·cases h
 ·cases h
theorem s8:Sound Try.prog 8 (Zw [(14,false)] d8 ok8):=by
 refine Zm C8.a C8.b C8.c C8.d ok8 (fun xs a h=>?_) fun xs a h w0 S hS=>?_
 ·unfold d8 at h
  (repeat' (split at h))<;>first|(cases h;done)|exact Nat.le_of_ble_eq_true rfl
 unfold d8 at h;split at h
 ·rename_i a b c d e1 f g u els
  split at h
  ·rename_i L hL
   obtain rfl:=ZI (g:=evR) (fun _ _=>ZD) hL;split at h
   ·rename_i hcond
    injection h with h;subst h;obtain ⟨hcf,hlen,osF,hok⟩:=hcond;clear hL;change S.m=_ at hS;have hE:Zd Try.prog (EL [(19,Zw [] d19 ok19),(20,Zw [] d20 ok20),(21,Zw [(9,true)] d21 ok21),(22,Zw [(9,true),(9,false)] d22 ok22)]):=Zf (by simp only[List.mem_cons,List.not_mem_nil,or_false,forall_eq_or_imp,forall_eq];exact ⟨s19,s20,s21,s22⟩);have hT:=XO L;have hC:=XS L;have hl:=Z6 L;have hcx:=YF hcf;have h19:d19 [.agg [.int .i64 a,.int .i64 b,.int .i64 c,.int .i64 d,.int .i64 e1,.int .i64 f,.int .i64 g]]=some ⟨.op 0 (lgC ⟨a,b,c,d,e1,f,g,eRw c.toNat a.toNat,eLs c.toNat⟩),[]⟩:=by
     simp only[d19];rw[if_pos (by omega)]
    rw[← led_0]at h19;have h20:d20 [.agg [.int .i64 a,.int .i64 b,.int .i64 c,.int .i64 d,.int .i64 e1,.int .i64 f,.int .i64 g]]=some ⟨.op 0 (mdC ⟨a,b,c,d,e1,f,g,[],0⟩),[]⟩:=rfl;have hlt:=fun M:LgZ=>Uu M;have hlc:=fun M:LgZ=>UG M;have hmt:=fun M:MdZ=>Vv M;have hmc:=fun M:MdZ=>Vt M;have hll:List.map evR L=Zy L:=rfl;rw[hll]at hS⊢;have n1:=T1 (lgM a b c d e1 f g []);have n2:=xV ⟨a,b,c,d,e1,f,g,[],0⟩;obtain ⟨lc0,hlc0⟩:∃ z,lgC (lgM a b c d e1 f g [])=z:=⟨_,rfl⟩;obtain ⟨mc0,hmc0⟩:∃ z,mdC ⟨a,b,c,d,e1,f,g,[],0⟩=z:=⟨_,rfl⟩;have q1:=hlt (lgM a b c d e1 f g []);have q2:=hlc (lgM a b c d e1 f g []);have q3:=hmt ⟨a,b,c,d,e1,f,g,[],0⟩;have q4:=hmc ⟨a,b,c,d,e1,f,g,[],0⟩;rw[hlc0]at q1 q2 h19 n1;rw[hmc0]at q3 q4 h20 n2;change Wm _ _ _ _ _ _ ⟨U6 0 [.agg [.int .i64 a,.int .i64 b,.int .i64 c,.int .i64 d,.int .i64 e1,.int .i64 f,.int .i64 g],.sl (.top 0) 0 (Zy L).length],Zs 0 [.view 0 14 (Zy L)],_⟩ _;unfold m8
    repeat' with_reducible (first|refine ZR.h ?_|refine zI ?_|(refine zK hE ?_;intro K hK;simp[hT,hC,hl,h19,h20,q1,q2,q3,q4];(repeat' (first|refine hK _ _ ?_|apply And.intro|(intro hc;try subst hc)))<;>(try clear hK K))|(refine zJ (fun hc=>?_) (fun hc=>?_)<;>simp at hc<;>(try subst hc)))
    all_goals refine Z4 (fun x=>I8 a b c d e1 f g L x) (fun x=>x.1≤L.length∧OkL (cfC a b c f g) (L.take x.1) x.2) (fun x=>L.length - x.1) (0,[]) ⟨Nat.zero_le _,OkL.nil⟩ ?_ ?_
    ·rw[hS]
     simp only[I8,List.take_zero,ZS,List.getLast?_nil,hlc0,hmc0];refine Imp.aut ?_ ?_<;>simp[NLe,Zg,hT,hC,q1,q2,q3,q4,n1,n2]
    rintro ⟨k,os⟩ ⟨hk,hos⟩;simp only at hk hos;simp only[I8];clear hlc0 hmc0 q1 q2 q3 q4 h19 h20 n1 n2;have n1:=T1 (lgM a b c d e1 f g (L.take k));have n2:=xV ⟨a,b,c,d,e1,f,g,os,ZS (L.take k)⟩;obtain ⟨lc1,hlc1⟩:∃ z,lgC (lgM a b c d e1 f g (L.take k))=z:=⟨_,rfl⟩;obtain ⟨mc1,hmc1⟩:∃ z,mdC ⟨a,b,c,d,e1,f,g,os,ZS (L.take k)⟩=z:=⟨_,rfl⟩;have q1:=hlt (lgM a b c d e1 f g (L.take k));have q2:=hlc (lgM a b c d e1 f g (L.take k));have q3:=hmt ⟨a,b,c,d,e1,f,g,os,ZS (L.take k)⟩;have q4:=hmc ⟨a,b,c,d,e1,f,g,os,ZS (L.take k)⟩;rw[hlc1]at q1 q2 n1⊢;rw[hmc1]at q3 q4 n2⊢;by_cases hkl:k<L.length
    ·obtain ⟨e,he⟩:∃ e,L[k]?=some e:=⟨_,List.getElem?_eq_getElem hkl⟩
     obtain ⟨os',_,hcan⟩:=X1 hok k e he;have hsn:=Ys he;have hos2:=OkL.snoc hos hcan;rw[← hsn]at hos2;change OkL _ _ (doZ f os e) at hos2;have ho1:=ZaE hos;have ho2:=ZaE hos2;have hI:=YD (Xz hcf) hos;rw[List.length_take]at ho1 ho2;have ww:IntKind.wrap .i64 ((k:Int)+1)=(k:Int)+1:=Zh (by omega) (by omega);have h21:∀ u,d21 [.op u mc1,.agg (evR e)]=some ⟨.raw .nilIface,[.cells 0 (mdC ⟨a,b,c,d,e1,f,g,doZ f os e,ZS (L.take (k+1))⟩)]⟩:=fun u=>by
      have:=x21 (M:=⟨a,b,c,d,e1,f,g,os,ZS (L.take k)⟩) (do_ok hcf hI hcan (by omega)) (UY hcan).1 u;rw[hmc1]at this;rw[this,hsn,TQ]
     have n3:=xV ⟨a,b,c,d,e1,f,g,doZ f os e,ZS (L.take (k+1))⟩;obtain ⟨mc2,hmc2⟩:∃ z,mdC ⟨a,b,c,d,e1,f,g,doZ f os e,ZS (L.take (k+1))⟩=z:=⟨_,rfl⟩;have q5:=hmt ⟨a,b,c,d,e1,f,g,doZ f os e,ZS (L.take (k+1))⟩;have q6:=hmc ⟨a,b,c,d,e1,f,g,doZ f os e,ZS (L.take (k+1))⟩;rw[hmc2]at h21 q5 q6 n3;have hg:=VX he;have hge:∀ hk,(Zy L)[k]'hk=evR e:=fun hk=>by rw[List.getElem?_eq_getElem hk]at hg;exact Option.some.inj hg
     by_cases hk2:e.k=2
     ·obtain ⟨i,j,x,y,r1,r2,r3,r4,r5,r6⟩:=ZaS (now:=ZS (L.take (k+1))) hcf hos hcan hk2 (by rw[List.length_take];omega) (by omega)
      have h22:∀ u u',d22 [.op u lc1,.op u' mc2,.agg (evR e)]=some ⟨.tup [],[.cells 0 (lgC (lgM a b c d e1 f g (L.take (k+1)))),.free]⟩:=fun u u' => by
       have:=x22 (M:=⟨a,b,c,d,e1,f,g,doZ f os e,ZS (L.take (k+1))⟩) r1 r2 r3 r4 r5 u u';rw[hlc1,hmc2,r6,← hsn]at this;exact this
      have n4:=T1 (lgM a b c d e1 f g (L.take (k+1)));obtain ⟨lc2,hlc2⟩:∃ z,lgC (lgM a b c d e1 f g (L.take (k+1)))=z:=⟨_,rfl⟩;have q7:=hlt (lgM a b c d e1 f g (L.take (k+1)));have q8:=hlc (lgM a b c d e1 f g (L.take (k+1)));rw[hlc2]at h22 q7 q8 n4;simp only[evR,hk2]at h21 h22 hg hge
      repeat' with_reducible (first|refine ZR.h ?_|refine zI ?_|(refine zK hE ?_;intro K hK;simp[hT,hC,hl,hkl,hg,hge,h21,h22,q1,q2,q3,q4,q5,q6,q7,q8,ww,hk2];(repeat' (first|refine hK _ _ ?_|apply And.intro|(intro hc;try subst hc)))<;>(try clear hK K))|(refine zJ (fun hc=>?_) (fun hc=>?_)<;>simp at hc<;>(try subst hc)))
      all_goals refine ⟨(k+1,doZ f os e),⟨hkl,hos2⟩,Nat.sub_lt_sub_left hkl (Nat.lt_succ_self k),?_⟩
      all_goals rw[hS]
      all_goals simp only[I8,hlc2,hmc2]
      all_goals (refine Imp.aut ?_ ?_<;>simp[NLe,Zg,hT,hC,q5,q6,q7,q8,n3,n4])
     ·have hlc2:lgC (lgM a b c d e1 f g (L.take (k+1)))=lc1:=by rw[hsn,vO hk2];exact hlc1
      simp only[evR]at h21 hg hge
      repeat' with_reducible (first|refine ZR.h ?_|refine zI ?_|(refine zK hE ?_;intro K hK;simp[hT,hC,hl,hkl,hg,hge,h21,q1,q2,q3,q4,q5,q6,ww,hk2];(repeat' (first|refine hK _ _ ?_|apply And.intro|(intro hc;try subst hc)))<;>(try clear hK K))|(refine zJ (fun hc=>?_) (fun hc=>?_)<;>simp at hc<;>(try subst hc)))
      all_goals refine ⟨(k+1,doZ f os e),⟨hkl,hos2⟩,Nat.sub_lt_sub_left hkl (Nat.lt_succ_self k),?_⟩
      all_goals rw[hS]
      all_goals simp only[I8,hlc2,hmc2]
      all_goals (refine Imp.aut ?_ ?_<;>simp[NLe,Zg,hT,hC,q1,q2,q5,q6,n1,n3])
    ·have hke:k=L.length:=by omega
     subst hke;rw[List.take_of_length_le (Nat.le_refl _)]at hlc1;rw[hlc1]
     repeat' with_reducible (first|refine ZR.h ?_|refine zI ?_|(refine zK hE ?_;intro K hK;simp[hT,hC,hl,q1,q2,q3,q4];(repeat' (first|refine hK _ _ ?_|apply And.intro|(intro hc;try subst hc)))<;>(try clear hK K))|(refine zJ (fun hc=>?_) (fun hc=>?_)<;>simp at hc<;>(try subst hc)))
     all_goals first|(simp;done)|(simp at *;omega)|((try simp[hT,hC,q1,q2]);refine Imp.aut ?_ ?_<;>simp[NLe,Zg,hT,hC,q1,q2,n1])
   ·cases h
  ·cases h
 ·cases h
def ofA (s:OrZ×Bool):AV:=.tup [.agg (orC s.1),.bool s.2]
open Classical in
noncomputable def d23:List AV→List NObj→Option AV
 | [.agg [.int .i64 a,.int .i64 b,.int .i64 nm,.int .i64 d,.int .i64 e1,.int .i64 f,.int .i64 gs],.sl (.top 0) 0 n,.int .i64 c,.int .i64 g],[.view 0 14 els]=>(match Xm YO els with
  | some L=>if n=els.length∧VA a b nm d e1 f gs=true∧L.length≤1000∧∃ os,OkL (cfC a b nm f gs) L os then some (ofA (ofL f c g L)) else none
  | none=>none)
 | _,_=>none
theorem ok23:ROk d23:=by
 intro xs os r h;unfold d23 at h
 (repeat' (split at h))<;>first|(cases h;done)|(injection h with h;subst h;simp[ofA,orC])
def I23 (a b nm d e1 f gs c g:Int) (L:List EvZ) (k:Nat):St:=⟨[(1,.sl (.top 0) 0 L.length),(2,.int .i64 c),(3,.int .i64 g),(4,.ptr (.top 1) 0 0),(8,.ptr (.top 2) 0 0),(10,.ptr (.top 3) 0 0),(11,.bool (ofL f c g (L.take k)).2),(12,.int .i64 k)],[(0,.view 0 14 (Zy L)),(1,.cells 0 [.int .i64 a,.int .i64 b,.int .i64 nm,.int .i64 d,.int .i64 e1,.int .i64 f,.int .i64 gs]),(2,.cells 0 [.int .i64 0,.int .i64 0,.int .i64 0,.int .i64 0,.int .i64 0,.int .i64 0,.int .i64 0,.int .i64 0,.int .i64 0,.int .i64 0,.bool false,.bool false,.int .i64 0]),(3,.cells 0 (orC (ofL f c g (L.take k)).1))],4⟩
theorem s23:Sound Try.prog 23 (rdS d23 ok23):=by
 refine Zn C23.a C23.b C23.c C23.d ok23 fun xs os r h vs ρ0 hvs=>⟨xs,?_,fun _ h=>h,fun w0 S hS=>?_⟩
 ·unfold d23 at h
  (repeat' (split at h))<;>first|(cases h;done)|exact Nat.le_of_ble_eq_true rfl
 unfold d23 at h;split at h
 ·rename_i a b nm d e1 f gs n c g els
  split at h
  ·rename_i L hL
   obtain rfl:=ZI (g:=evR) (fun _ _=>ZD) hL;clear hL;split at h
   ·rename_i hcond
    injection h with h;subst h;obtain ⟨rfl,hcf,hlen,osF,hok⟩:=hcond;have hll:List.map evR L=Zy L:=rfl;rw[hll]at hvs⊢;have hE:Zd Try.prog (EL [(30,rdS d30 ok30)]):=Zf (by simp only[List.mem_cons,List.not_mem_nil,or_false,forall_eq_or_imp,forall_eq];exact s30);have hT:=XO L;have hC:=XS L;have hl:=Z6 L;have hCo:=Xz hcf;change Wm _ _ _ _ _ _ ⟨U6 0 [.agg [.int .i64 a,.int .i64 b,.int .i64 nm,.int .i64 d,.int .i64 e1,.int .i64 f,.int .i64 gs],.sl (.top 0) 0 (Zy L).length,.int .i64 c,.int .i64 g],Zs 0 [.view 0 14 (Zy L)],_⟩ _;unfold m23
    repeat' with_reducible (first|refine ZR.h ?_|refine zI ?_|(refine zK hE ?_;intro K hK;simp[hT,hC,hl];(repeat' (first|refine hK _ _ ?_|apply And.intro|(intro hc;try subst hc)))<;>(try clear hK K))|(refine zJ (fun hc=>?_) (fun hc=>?_)<;>simp at hc<;>(try subst hc)))
    all_goals (refine Z4 (fun k=>I23 a b nm d e1 f gs c g L k) (fun k=>k≤L.length) (fun k=>L.length - k) 0 (Nat.zero_le _) ?_ ?_)
    ·simp only[I23,List.take_zero,ofL,List.foldl_nil,orC,o0]
     rw[hS]
     (refine Imp.aut ?_ ?_<;>simp[NLe,Zg,hT,hC,hl])
    intro k hk;replace hk:k≤L.length:=hk;simp only[I23];by_cases hkl:k<L.length
    ·obtain ⟨e,he⟩:∃ e,L[k]?=some e:=⟨_,List.getElem?_eq_getElem hkl⟩
     obtain ⟨os,hos,hcan⟩:=X1 hok k e he;have hsn:=Ys he;have hst:ofL f c g (L.take (k+1))=ofE f c g (ofL f c g (L.take k)) e:=(by rw[hsn];exact XF f c g (L.take k) e);have hbn:=vj hCo hos c g;change 0≤(ofL f c g (L.take k)).1.l∧(ofL f c g (L.take k)).1.l≤9999∧0≤(ofL f c g (L.take k)).1.f∧(ofL f c g (L.take k)).1.f≤4∧_ at hbn;obtain ⟨⟨o,bo⟩,hs0⟩:∃ s,ofL f c g (L.take k)=s:=⟨_,rfl⟩;rw[hs0]at hst hbn⊢;simp only at hbn⊢;obtain ⟨s1,hs1⟩:∃ s,ofL f c g (L.take (k+1))=s:=⟨_,rfl⟩;rw[hs1]at hst;have h0:=UY hcan;have hI:=YD hCo hos;have hnum:=fun q=>Xs hCo hI hcan q;have ww:IntKind.wrap .i64 ((k:Int)+1)=(k:Int)+1:=Zh (by omega) (by omega);have hg1:=VX he;have hg2:∀ hk,(Zy L)[k]'hk=evR e:=fun hk=>by rw[List.getElem?_eq_getElem hk]at hg1;exact Option.some.inj hg1
     simp only[evR]at hg1 hg2;clear hos hcan hsn hs0 hI hok;have w1:e.k=2→IntKind.wrap .i64 (o.l - e.q)=o.l - e.q:=fun q=>by have:=hnum q;exact Zh (by omega) (by omega)
     have w2:IntKind.wrap .i64 (o.f+1)=o.f+1:=Zh (by omega) (by omega);by_cases hc:e.c=c
     ·by_cases hg:e.g=g
      ·subst hc
       subst hg;by_cases hk1:e.k=1
       ·rw[vY (decide_eq_true ⟨rfl,rfl⟩) hk1]at hst
        simp only[orC]
        repeat' with_reducible (first|refine ZR.h ?_|refine zI ?_|(refine zK hE ?_;intro K hK;simp[hT,hC,hl,hkl,hg1,hg2,ww,hk1];(repeat' (first|refine hK _ _ ?_|apply And.intro|(intro hc;try subst hc)))<;>(try clear hK K))|(refine zJ (fun hc=>?_) (fun hc=>?_)<;>simp at hc<;>(try subst hc)))
        all_goals first|(exfalso;omega)|skip
        all_goals refine ⟨k+1,hkl,Nat.sub_lt_sub_left hkl (Nat.lt_succ_self k),?_⟩
        all_goals simp only[I23,hs1,hst,orC,U0]
        all_goals rw[hS]
        all_goals (refine Imp.aut ?_ ?_<;>simp[NLe,Zg,hT,hC,hl])
       ·by_cases hk2:e.k=2
        ·have hne:e.o≠e.c:=fun q=>by
          have hx:=(hnum hk2).2.2.2.2.2.2.2.2.2.2.2.2;rw[q]at hx;exact hx rfl
         rw[vZ (decide_eq_true ⟨rfl,rfl⟩) hk2 (decide_eq_false fun q=>hne q.2.1)]at hst;have hw1:=w1 hk2;simp only[orC]
         repeat' with_reducible (first|refine ZR.h ?_|refine zI ?_|(refine zK hE ?_;intro K hK;simp[hT,hC,hl,hkl,hg1,hg2,ww,hk2,hne,hw1,w2];(repeat' (first|refine hK _ _ ?_|apply And.intro|(intro hc;try subst hc)))<;>(try clear hK K))|(refine zJ (fun hc=>?_) (fun hc=>?_)<;>simp at hc<;>(try subst hc)))
         all_goals first|(exfalso;omega)|skip
         all_goals refine ⟨k+1,hkl,Nat.sub_lt_sub_left hkl (Nat.lt_succ_self k),?_⟩
         all_goals simp only[I23,hs1,hst,orC,Zt]
         all_goals rw[hS]
         all_goals (refine Imp.aut ?_ ?_<;>simp[NLe,Zg,hT,hC,hl])
        ·by_cases hk3:e.k=3
         ·have hen:XT o e={ o with e:=6 }:=by unfold XT;simp only[hk3];rfl
          rw[VI (decide_eq_true ⟨rfl,rfl⟩) (by omega),hen]at hst;simp only[orC]
          repeat' with_reducible (first|refine ZR.h ?_|refine zI ?_|(refine zK hE ?_;intro K hK;simp[hT,hC,hl,hkl,hg1,hg2,ww,hk3];(repeat' (first|refine hK _ _ ?_|apply And.intro|(intro hc;try subst hc)))<;>(try clear hK K))|(refine zJ (fun hc=>?_) (fun hc=>?_)<;>simp at hc<;>(try subst hc)))
          all_goals first|(exfalso;omega)|skip
          all_goals refine ⟨k+1,hkl,Nat.sub_lt_sub_left hkl (Nat.lt_succ_self k),?_⟩
          all_goals simp only[I23,hs1,hst,orC]
          all_goals rw[hS]
          all_goals (refine Imp.aut ?_ ?_<;>simp[NLe,Zg,hT,hC,hl])
         ·by_cases hk4:e.k=4
          ·have hen:XT o e={ o with a:=true }:=by unfold XT;simp only[hk4];rfl
           rw[VI (decide_eq_true ⟨rfl,rfl⟩) (by omega),hen]at hst;simp only[orC]
           repeat' with_reducible (first|refine ZR.h ?_|refine zI ?_|(refine zK hE ?_;intro K hK;simp[hT,hC,hl,hkl,hg1,hg2,ww,hk4];(repeat' (first|refine hK _ _ ?_|apply And.intro|(intro hc;try subst hc)))<;>(try clear hK K))|(refine zJ (fun hc=>?_) (fun hc=>?_)<;>simp at hc<;>(try subst hc)))
           all_goals first|(exfalso;omega)|skip
           all_goals refine ⟨k+1,hkl,Nat.sub_lt_sub_left hkl (Nat.lt_succ_self k),?_⟩
           all_goals simp only[I23,hs1,hst,orC]
           all_goals rw[hS]
           all_goals (refine Imp.aut ?_ ?_<;>simp[NLe,Zg,hT,hC,hl])
          ·by_cases hk5:e.k=5
           ·have hen:XT o e={ o with e:=7 }:=by unfold XT;simp only[hk5];rfl
            rw[VI (decide_eq_true ⟨rfl,rfl⟩) (by omega),hen]at hst;simp only[orC]
            repeat' with_reducible (first|refine ZR.h ?_|refine zI ?_|(refine zK hE ?_;intro K hK;simp[hT,hC,hl,hkl,hg1,hg2,ww,hk5];(repeat' (first|refine hK _ _ ?_|apply And.intro|(intro hc;try subst hc)))<;>(try clear hK K))|(refine zJ (fun hc=>?_) (fun hc=>?_)<;>simp at hc<;>(try subst hc)))
            all_goals first|(exfalso;omega)|skip
            all_goals refine ⟨k+1,hkl,Nat.sub_lt_sub_left hkl (Nat.lt_succ_self k),?_⟩
            all_goals simp only[I23,hs1,hst,orC]
            all_goals rw[hS]
            all_goals (refine Imp.aut ?_ ?_<;>simp[NLe,Zg,hT,hC,hl])
           ·by_cases hk6:e.k=6
            ·have hen:XT o e={ o with r:=true }:=by unfold XT;simp only[hk6];rfl
             rw[VI (decide_eq_true ⟨rfl,rfl⟩) (by omega),hen]at hst;simp only[orC]
             repeat' with_reducible (first|refine ZR.h ?_|refine zI ?_|(refine zK hE ?_;intro K hK;simp[hT,hC,hl,hkl,hg1,hg2,ww,hk6];(repeat' (first|refine hK _ _ ?_|apply And.intro|(intro hc;try subst hc)))<;>(try clear hK K))|(refine zJ (fun hc=>?_) (fun hc=>?_)<;>simp at hc<;>(try subst hc)))
             all_goals first|(exfalso;omega)|skip
             all_goals refine ⟨k+1,hkl,Nat.sub_lt_sub_left hkl (Nat.lt_succ_self k),?_⟩
             all_goals simp only[I23,hs1,hst,orC]
             all_goals rw[hS]
             all_goals (refine Imp.aut ?_ ?_<;>simp[NLe,Zg,hT,hC,hl])
            ·by_cases hk7:e.k=7
             ·have hen:XT o e={ o with e:=e.e }:=by unfold XT;simp only[hk7];rfl
              rw[VI (decide_eq_true ⟨rfl,rfl⟩) (by omega),hen]at hst;simp only[orC]
              repeat' with_reducible (first|refine ZR.h ?_|refine zI ?_|(refine zK hE ?_;intro K hK;simp[hT,hC,hl,hkl,hg1,hg2,ww,hk7];(repeat' (first|refine hK _ _ ?_|apply And.intro|(intro hc;try subst hc)))<;>(try clear hK K))|(refine zJ (fun hc=>?_) (fun hc=>?_)<;>simp at hc<;>(try subst hc)))
              all_goals first|(exfalso;omega)|skip
              all_goals refine ⟨k+1,hkl,Nat.sub_lt_sub_left hkl (Nat.lt_succ_self k),?_⟩
              all_goals simp only[I23,hs1,hst,orC]
              all_goals rw[hS]
              all_goals (refine Imp.aut ?_ ?_<;>simp[NLe,Zg,hT,hC,hl])
             ·exfalso
              omega
      ·by_cases hk1:e.k=1
       ·rw[ZM (decide_eq_false fun q=>hg q.2) (decide_eq_false fun q=>by omega)]at hst
        simp only[orC]
        repeat' with_reducible (first|refine ZR.h ?_|refine zI ?_|(refine zK hE ?_;intro K hK;simp[hT,hC,hl,hkl,hg1,hg2,ww,hc,hg,hk1];(repeat' (first|refine hK _ _ ?_|apply And.intro|(intro hc;try subst hc)))<;>(try clear hK K))|(refine zJ (fun hc=>?_) (fun hc=>?_)<;>simp at hc<;>(try subst hc)))
        all_goals first|(exfalso;omega)|skip
        all_goals refine ⟨k+1,hkl,Nat.sub_lt_sub_left hkl (Nat.lt_succ_self k),?_⟩
        all_goals simp only[I23,hs1,hst,orC]
        all_goals rw[hS]
        all_goals (refine Imp.aut ?_ ?_<;>simp[NLe,Zg,hT,hC,hl])
       ·by_cases hk2:e.k=2
        ·by_cases ho:e.o=c
         ·by_cases hw:e.w=g
          ·rw[zY (decide_eq_false fun q=>hg q.2) (decide_eq_true ⟨hk2,ho,hw⟩)]at hst
           have hw1:=w1 hk2;obtain ⟨z,hz⟩:∃ z,byO f (Zt o e.q)=z:=⟨_,rfl⟩;simp only at hst;rw[hz]at hst;have h30:d30 [.agg [.int .i64 a,.int .i64 b,.int .i64 nm,.int .i64 d,.int .i64 e1,.int .i64 f,.int .i64 gs],.agg (orC (Zt o e.q))] []=some (.int .i64 z):=(by simp only[d30,XM,hz]);simp only[orC,Zt]at h30;simp only[orC]
           repeat' with_reducible (first|refine ZR.h ?_|refine zI ?_|(refine zK hE ?_;intro K hK;simp[hT,hC,hl,hkl,hg1,hg2,ww,hc,hg,hk2,ho,hw,hw1,w2,h30];(repeat' (first|refine hK _ _ ?_|apply And.intro|(intro hc;try subst hc)))<;>(try clear hK K))|(refine zJ (fun hc=>?_) (fun hc=>?_)<;>simp at hc<;>(try subst hc)))
           all_goals first|(exfalso;omega)|skip
           all_goals refine ⟨k+1,hkl,Nat.sub_lt_sub_left hkl (Nat.lt_succ_self k),?_⟩
           all_goals simp only[I23,hs1,hst,orC,Zt]
           all_goals rw[hS]
           all_goals (refine Imp.aut ?_ ?_<;>simp[NLe,Zg,hT,hC,hl])
          ·rw[ZM (decide_eq_false fun q=>hg q.2) (decide_eq_false fun q=>hw q.2.2)]at hst
           simp only[orC]
           repeat' with_reducible (first|refine ZR.h ?_|refine zI ?_|(refine zK hE ?_;intro K hK;simp[hT,hC,hl,hkl,hg1,hg2,ww,hc,hg,hk2,ho,hw];(repeat' (first|refine hK _ _ ?_|apply And.intro|(intro hc;try subst hc)))<;>(try clear hK K))|(refine zJ (fun hc=>?_) (fun hc=>?_)<;>simp at hc<;>(try subst hc)))
           all_goals first|(exfalso;omega)|skip
           all_goals refine ⟨k+1,hkl,Nat.sub_lt_sub_left hkl (Nat.lt_succ_self k),?_⟩
           all_goals simp only[I23,hs1,hst,orC]
           all_goals rw[hS]
           all_goals (refine Imp.aut ?_ ?_<;>simp[NLe,Zg,hT,hC,hl])
         ·rw[ZM (decide_eq_false fun q=>hg q.2) (decide_eq_false fun q=>ho q.2.1)]at hst
          simp only[orC]
          repeat' with_reducible (first|refine ZR.h ?_|refine zI ?_|(refine zK hE ?_;intro K hK;simp[hT,hC,hl,hkl,hg1,hg2,ww,hc,hg,hk2,ho];(repeat' (first|refine hK _ _ ?_|apply And.intro|(intro hc;try subst hc)))<;>(try clear hK K))|(refine zJ (fun hc=>?_) (fun hc=>?_)<;>simp at hc<;>(try subst hc)))
          all_goals first|(exfalso;omega)|skip
          all_goals refine ⟨k+1,hkl,Nat.sub_lt_sub_left hkl (Nat.lt_succ_self k),?_⟩
          all_goals simp only[I23,hs1,hst,orC]
          all_goals rw[hS]
          all_goals (refine Imp.aut ?_ ?_<;>simp[NLe,Zg,hT,hC,hl])
        ·rw[ZM (decide_eq_false fun q=>hg q.2) (decide_eq_false fun q=>hk2 q.1)]at hst
         simp only[orC]
         repeat' with_reducible (first|refine ZR.h ?_|refine zI ?_|(refine zK hE ?_;intro K hK;simp[hT,hC,hl,hkl,hg1,hg2,ww,hc,hg,hk1,hk2];(repeat' (first|refine hK _ _ ?_|apply And.intro|(intro hc;try subst hc)))<;>(try clear hK K))|(refine zJ (fun hc=>?_) (fun hc=>?_)<;>simp at hc<;>(try subst hc)))
         all_goals first|(exfalso;omega)|skip
         all_goals refine ⟨k+1,hkl,Nat.sub_lt_sub_left hkl (Nat.lt_succ_self k),?_⟩
         all_goals simp only[I23,hs1,hst,orC]
         all_goals rw[hS]
         all_goals (refine Imp.aut ?_ ?_<;>simp[NLe,Zg,hT,hC,hl])
     ·by_cases hk1:e.k=1
      ·rw[ZM (decide_eq_false fun q=>hc q.1) (decide_eq_false fun q=>by omega)]at hst
       simp only[orC]
       repeat' with_reducible (first|refine ZR.h ?_|refine zI ?_|(refine zK hE ?_;intro K hK;simp[hT,hC,hl,hkl,hg1,hg2,ww,hc,hk1];(repeat' (first|refine hK _ _ ?_|apply And.intro|(intro hc;try subst hc)))<;>(try clear hK K))|(refine zJ (fun hc=>?_) (fun hc=>?_)<;>simp at hc<;>(try subst hc)))
       all_goals first|(exfalso;omega)|skip
       all_goals refine ⟨k+1,hkl,Nat.sub_lt_sub_left hkl (Nat.lt_succ_self k),?_⟩
       all_goals simp only[I23,hs1,hst,orC]
       all_goals rw[hS]
       all_goals (refine Imp.aut ?_ ?_<;>simp[NLe,Zg,hT,hC,hl])
      ·by_cases hk2:e.k=2
       ·by_cases ho:e.o=c
        ·by_cases hw:e.w=g
         ·rw[zY (decide_eq_false fun q=>hc q.1) (decide_eq_true ⟨hk2,ho,hw⟩)]at hst
          have hw1:=w1 hk2;obtain ⟨z,hz⟩:∃ z,byO f (Zt o e.q)=z:=⟨_,rfl⟩;simp only at hst;rw[hz]at hst;have h30:d30 [.agg [.int .i64 a,.int .i64 b,.int .i64 nm,.int .i64 d,.int .i64 e1,.int .i64 f,.int .i64 gs],.agg (orC (Zt o e.q))] []=some (.int .i64 z):=(by simp only[d30,XM,hz]);simp only[orC,Zt]at h30;simp only[orC]
          repeat' with_reducible (first|refine ZR.h ?_|refine zI ?_|(refine zK hE ?_;intro K hK;simp[hT,hC,hl,hkl,hg1,hg2,ww,hc,hk2,ho,hw,hw1,w2,h30];(repeat' (first|refine hK _ _ ?_|apply And.intro|(intro hc;try subst hc)))<;>(try clear hK K))|(refine zJ (fun hc=>?_) (fun hc=>?_)<;>simp at hc<;>(try subst hc)))
          all_goals first|(exfalso;omega)|skip
          all_goals refine ⟨k+1,hkl,Nat.sub_lt_sub_left hkl (Nat.lt_succ_self k),?_⟩
          all_goals simp only[I23,hs1,hst,orC,Zt]
          all_goals rw[hS]
          all_goals (refine Imp.aut ?_ ?_<;>simp[NLe,Zg,hT,hC,hl])
         ·rw[ZM (decide_eq_false fun q=>hc q.1) (decide_eq_false fun q=>hw q.2.2)]at hst
          simp only[orC]
          repeat' with_reducible (first|refine ZR.h ?_|refine zI ?_|(refine zK hE ?_;intro K hK;simp[hT,hC,hl,hkl,hg1,hg2,ww,hc,hk2,ho,hw];(repeat' (first|refine hK _ _ ?_|apply And.intro|(intro hc;try subst hc)))<;>(try clear hK K))|(refine zJ (fun hc=>?_) (fun hc=>?_)<;>simp at hc<;>(try subst hc)))
          all_goals first|(exfalso;omega)|skip
          all_goals refine ⟨k+1,hkl,Nat.sub_lt_sub_left hkl (Nat.lt_succ_self k),?_⟩
          all_goals simp only[I23,hs1,hst,orC]
          all_goals rw[hS]
          all_goals (refine Imp.aut ?_ ?_<;>simp[NLe,Zg,hT,hC,hl])
        ·rw[ZM (decide_eq_false fun q=>hc q.1) (decide_eq_false fun q=>ho q.2.1)]at hst
         simp only[orC]
         repeat' with_reducible (first|refine ZR.h ?_|refine zI ?_|(refine zK hE ?_;intro K hK;simp[hT,hC,hl,hkl,hg1,hg2,ww,hc,hk2,ho];(repeat' (first|refine hK _ _ ?_|apply And.intro|(intro hc;try subst hc)))<;>(try clear hK K))|(refine zJ (fun hc=>?_) (fun hc=>?_)<;>simp at hc<;>(try subst hc)))
         all_goals first|(exfalso;omega)|skip
         all_goals refine ⟨k+1,hkl,Nat.sub_lt_sub_left hkl (Nat.lt_succ_self k),?_⟩
         all_goals simp only[I23,hs1,hst,orC]
         all_goals rw[hS]
         all_goals (refine Imp.aut ?_ ?_<;>simp[NLe,Zg,hT,hC,hl])
       ·rw[ZM (decide_eq_false fun q=>hc q.1) (decide_eq_false fun q=>hk2 q.1)]at hst
        simp only[orC]
        repeat' with_reducible (first|refine ZR.h ?_|refine zI ?_|(refine zK hE ?_;intro K hK;simp[hT,hC,hl,hkl,hg1,hg2,ww,hc,hk1,hk2];(repeat' (first|refine hK _ _ ?_|apply And.intro|(intro hc;try subst hc)))<;>(try clear hK K))|(refine zJ (fun hc=>?_) (fun hc=>?_)<;>simp at hc<;>(try subst hc)))
        all_goals first|(exfalso;omega)|skip
        all_goals refine ⟨k+1,hkl,Nat.sub_lt_sub_left hkl (Nat.lt_succ_self k),?_⟩
        all_goals simp only[I23,hs1,hst,orC]
        all_goals rw[hS]
        all_goals (refine Imp.aut ?_ ?_<;>simp[NLe,Zg,hT,hC,hl])
    ·have hke:k=L.length:=by omega
     subst hke;rw[List.take_of_length_le (Nat.le_refl _)];simp only[ofA];obtain ⟨⟨o,bo⟩,hs0⟩:∃ s,ofL f c g L=s:=⟨_,rfl⟩;rw[hs0];simp only[orC]
     repeat' with_reducible (first|refine ZR.h ?_|refine zI ?_|(refine zK hE ?_;intro K hK;simp[hT,hC,hl];(repeat' (first|refine hK _ _ ?_|apply And.intro|(intro hc;try subst hc)))<;>(try clear hK K))|(refine zJ (fun hc=>?_) (fun hc=>?_)<;>simp at hc<;>(try subst hc)))
     all_goals first|(simp;done)|(simp at *;omega)|((try simp[hT,hC]);refine Imp.aut ?_ ?_<;>simp[NLe,Zg,hT,hC,hl])
   ·cases h
  ·cases h
 ·cases h
def Zeu (s:OrZ×Bool):AV:=.tup [.agg (orC s.1),.int .i64 (Yr s)]
open Classical in
noncomputable def d29:List AV→List NObj→Option AV
 | [.agg [.int .i64 a,.int .i64 b,.int .i64 nm,.int .i64 d,.int .i64 e1,.int .i64 f,.int .i64 gs],.sl (.top 0) 0 n,.int .i64 c,.int .i64 g],[.view 0 14 els]=>(match Xm YO els with
  | some L=>if n=els.length∧VA a b nm d e1 f gs=true∧L.length≤1000∧∃ os,OkL (cfC a b nm f gs) L os then some (Zeu (ofL f c g L)) else none
  | none=>none)
 | _,_=>none
theorem ok29:ROk d29:=by
 intro xs os r h;unfold d29 at h
 (repeat' (split at h))<;>first|(cases h;done)|(injection h with h;subst h;simp[Zeu,orC])
theorem s29:Sound Try.prog 29 (rdS d29 ok29):=by
 refine Zn C29.a C29.b C29.c C29.d ok29 fun xs os r h vs ρ0 hvs=>⟨xs,?_,fun _ h=>h,fun w0 S hS=>?_⟩
 ·unfold d29 at h
  (repeat' (split at h))<;>first|(cases h;done)|exact Nat.le_of_ble_eq_true rfl
 unfold d29 at h;split at h
 ·rename_i a b nm d e1 f gs n c g els
  split at h
  ·rename_i L hL
   obtain rfl:=ZI (g:=evR) (fun _ _=>ZD) hL;clear hL;split at h
   ·rename_i hcond
    injection h with h;subst h;have hc2:=hcond;obtain ⟨rfl,hcf,hlen,hex⟩:=hcond;have hll:List.map evR L=Zy L:=rfl;rw[hll]at hvs hc2⊢;have hE:Zd Try.prog (EL [(23,rdS d23 ok23)]):=Zf (by simp only[List.mem_cons,List.not_mem_nil,or_false,forall_eq_or_imp,forall_eq];exact s23);have hT:=XO L;have hC:=XS L;have hl:=Z6 L;have hD:=YN L;have htk:(Zy L).take L.length=Zy L:=List.take_of_length_le (by rw[hl];exact Nat.le_refl _);have h23:d23 [.agg [.int .i64 a,.int .i64 b,.int .i64 nm,.int .i64 d,.int .i64 e1,.int .i64 f,.int .i64 gs],.sl (.top 0) 0 L.length,.int .i64 c,.int .i64 g] [.view 0 14 (Zy L)]=some (ofA (ofL f c g L)):=by
     have hm:Xm YO (Zy L)=some L:=Zv (f:=YO) (g:=evR) Yb L;simp only[d23,hm];rw[if_pos ⟨hl.symm,hcf,hlen,hex⟩]
    change Wm _ _ _ _ _ _ ⟨U6 0 [.agg [.int .i64 a,.int .i64 b,.int .i64 nm,.int .i64 d,.int .i64 e1,.int .i64 f,.int .i64 gs],.sl (.top 0) 0 (Zy L).length,.int .i64 c,.int .i64 g],Zs 0 [.view 0 14 (Zy L)],_⟩ _;obtain ⟨⟨o,bo⟩,hs⟩:∃ s,ofL f c g L=s:=⟨_,rfl⟩;rw[hs]at h23⊢;simp only[ofA,Zeu,orC]at h23⊢;cases bo with
    | false =>
     have hv:Yr (o,false)=3:=rfl;rw[hv];unfold m29
     repeat' with_reducible (first|refine ZR.h ?_|refine zI ?_|(refine zK hE ?_;intro K hK;simp[hT,hC,hl,hD,htk,h23];(repeat' (first|refine hK _ _ ?_|apply And.intro|(intro hc;try subst hc)))<;>(try clear hK K))|(refine zJ (fun hc=>?_) (fun hc=>?_)<;>simp at hc<;>(try subst hc)))
     all_goals first|(simp;done)|(simp at *;omega)|((try simp[hT,hC]);refine Imp.aut ?_ ?_<;>simp[NLe,hT,hC])
    | true =>
     by_cases he:o.e=0
     ·have hv:Yr (o,true)=0:=by simp[Yr,he]
      rw[hv];unfold m29
      repeat' with_reducible (first|refine ZR.h ?_|refine zI ?_|(refine zK hE ?_;intro K hK;simp[hT,hC,hl,hD,htk,h23,he];(repeat' (first|refine hK _ _ ?_|apply And.intro|(intro hc;try subst hc)))<;>(try clear hK K))|(refine zJ (fun hc=>?_) (fun hc=>?_)<;>simp at hc<;>(try subst hc)))
      all_goals first|(simp;done)|(simp at *;omega)|((try simp[hT,hC,he]);refine Imp.aut ?_ ?_<;>simp[NLe,hT,hC,he])
     ·have hv:Yr (o,true)=29:=by simp[Yr,he]
      rw[hv];unfold m29
      repeat' with_reducible (first|refine ZR.h ?_|refine zI ?_|(refine zK hE ?_;intro K hK;simp[hT,hC,hl,hD,htk,h23,he];(repeat' (first|refine hK _ _ ?_|apply And.intro|(intro hc;try subst hc)))<;>(try clear hK K))|(refine zJ (fun hc=>?_) (fun hc=>?_)<;>simp at hc<;>(try subst hc)))
      all_goals first|(simp;done)|(simp at *;omega)|((try simp[hT,hC]);refine Imp.aut ?_ ?_<;>simp[NLe,hT,hC])
   ·cases h
  ·cases h
 ·cases h
end Go.W
