/- A part of the proofs about the pair's laws (LrW). -/
import Derived.Test.YtnjdphaopmikgaaLrV
import Derived.Test.YtnjdphaopmikgaaPuA
import Derived.Test.YtnjdphaopmikgaaLqC
namespace Go.W
open Go.Proofs
set_option linter.unusedSimpArgs false
set_option linter.unusedVariables false
set_option maxHeartbeats 8000000
attribute [local irreducible] Wm
attribute [local simp] Yu lkp Ui prs Th prT ddL idL Yn U1 Ren Vz NObj.none ZZ
def r18b:MCode:=.seq (.reg q18_23) (.seq (.seq (.reg q18_24) (.cond (.t 134) (.seq (.reg q18_25) .ret) .skip)) (.seq (.reg q18_26) (.seq (.seq (.reg q18_27) (.block 2 (.seq (.reg q18_28) (.cond (.t 141) (.seq (.reg q18_29) (.seq (.seq (.reg q18_30) (.cond (.t 154) (.seq (.reg q18_31) .ret) .skip)) (.seq (.seq (.draw q18_32 p18_32) (.cond (.t 166) (.seq (.reg q18_33) .ret) .skip)) (.seq (.seq (.reg q18_34) (.cond (.t 178) (.seq (.reg q18_35) .ret) .skip)) (.seq (.reg q18_36) (.seq (.reg q18_37) (.cond (.t 204) (.seq (.reg q18_38) .ret) .skip))))))) (.seq (.reg q18_39) (.cond (.t 205) (.seq (.reg q18_40) (.cond (.t 212) (.seq (.reg q18_41) .ret) .skip)) (.seq (.reg q18_42) (.cond (.t 213) (.seq (.reg q18_43) (.cond (.t 216) (.seq (.reg q18_44) .ret) .skip)) (.seq (.reg q18_45) (.cond (.t 217) (.seq (.reg q18_46) (.cond (.t 232) (.seq (.reg q18_47) .ret) .skip)) (.seq (.reg q18_48) (.cond (.t 233) (.seq (.reg q18_49) (.cond (.t 236) (.seq (.reg q18_50) .ret) .skip)) (.seq (.reg q18_51) (.cond (.t 237) (.seq (.seq (.reg q18_52) (.cond (.t 244) (.reg q18_53) .skip)) (.seq (.reg q18_54) (.cond (.t 252) (.seq (.reg q18_55) .ret) .skip))) .skip)))))))))))))) (.seq (.reg q18_56) .ret))))
def r18c:MCode:=.seq (.seq (.reg q18_14) (.cond (.t 95) (.seq (.reg q18_15) (.seq (.reg q18_16) (.cond (.t 107) (.seq (.reg q18_17) .ret) .skip))) .skip)) (.seq (.seq (.reg q18_18) (.cond (.t 111) (.seq (.reg q18_19) .ret) .skip)) (.seq (.seq (.reg q18_20) (.cond (.t 116) (.seq (.reg q18_21) .ret) .skip)) (.seq (.reg q18_22) .ret)))
def r18a:MCode:=.seq (.seq (.reg q18_6) (.cond (.t 66) (.seq (.reg q18_7) .ret) .skip)) (.seq (.reg q18_8) (.seq (.seq (.reg q18_9) (.block 0 (.loop (.seq (.seq (.reg q18_10) (.cond (.t 70) .skip (.exit 0))) (.seq (.block 1 (.seq (.draw q18_11 p18_11) (.cond (.t 88) (.reg q18_12) .skip))) (.reg q18_13)))))) r18c))
def r18m:MCode:=.seq (.seq (.reg q18_3) (.cond (.t 50) (.seq (.reg q18_4) .ret) .skip)) (.seq (.seq (.reg q18_5) (.cond (.t 53) r18a .skip)) r18b)
theorem Zd7:m18=.seq (.reg q18_0) (.seq (.seq (.draw q18_1 p18_1) (.cond (.t 42) (.seq (.reg q18_2) .ret) .skip)) r18m):=rfl
def E18 (L:List EvZ) (v:Int):St:=⟨[(0,.int .i64 v)],[(0,.view 0 14 (Zy L))],1⟩
def S18 (a b nm d e1 f gs:Int) (L:List EvZ) (e:EvZ) (tl:List (Nat×AV)):St:=⟨[(1,.sl (.top 0) 0 L.length),(3,.ptr (.top 1) 0 0),(5,.ptr (.top 2) 0 0)]++tl,[(0,.view 0 14 (Zy L)),(1,.cells 0 [.int .i64 a,.int .i64 b,.int .i64 nm,.int .i64 d,.int .i64 e1,.int .i64 f,.int .i64 gs]),(2,.cells 0 [.int .i64 e.k,.int .i64 e.c,.int .i64 e.g,.int .i64 e.o,.int .i64 e.w,.int .i64 e.t.nm,.int .i64 e.t.sd,.int .i64 e.t.pr,.int .i64 e.t.le,.int .i64 e.t.un,.int .i64 e.q,.int .i64 e.p,.int .i64 e.tk,.int .i64 e.e])],3⟩
theorem ZbR {C:CfE} {L:List EvZ} {e:EvZ} (h:e.tk<ZS L):ZE C L e=5:=by unfold ZE;rw[if_pos h]
theorem Zcc {C:CfE} {L:List EvZ} {e:EvZ} (h:¬ e.tk<ZS L) (h2:e.k<1∨7<e.k):ZE C L e=6:=by unfold ZE;rw[if_neg h,if_pos h2]
theorem To {C:CfE} {L:List EvZ} {e:EvZ} (h:¬ e.tk<ZS L) (k:e.k=1):ZE C L e=if e.c<0∨C.n≤e.c then 21 else if 0<Zq e.c L∧(ofL C.F e.c (Zq e.c L) L).1.e=0 then 27 else if C.G≤Zq e.c L then 28 else if e.g≠Zq e.c L+1 then 20 else ZL C.nm e.t e.q 0:=by
  unfold ZE;rw[if_neg h,if_neg (by omega),if_pos k]
theorem ZdD {C:CfE} {L:List EvZ} {e:EvZ} (h:¬ e.tk<ZS L) (k1:2≤e.k) (k2:e.k≤7) (hl:Yr (ofL C.F e.c e.g L)≠0):ZE C L e=Yr (ofL C.F e.c e.g L):=by
  unfold ZE;rw[if_neg h,if_neg (by omega),if_neg (by omega),if_pos hl]
theorem can_x {C:CfE} {L:List EvZ} {e:EvZ} (h:¬ e.tk<ZS L) (k1:2≤e.k) (k2:e.k≤7) (hl:¬ Yr (ofL C.F e.c e.g L)≠0) {o y:OrZ} (ho:(ofL C.F e.c e.g L).1=o) (hy:(ofL C.F e.o e.w L).1=y):ZE C L e =
  if e.k=2 then
    (if Yr (ofL C.F e.o e.w L)≠0 then Yr (ofL C.F e.o e.w L)
     else if o.c / C.b=y.c / C.b then 1
     else if byO C.F o≠0∨byO C.F y≠0∨y.a=true then 29
     else if (Zb o.t y.t o.l y.l).1=0∨(Zb o.t y.t o.l y.l).1≠e.q∨(Zb o.t y.t o.l y.l).2≠e.p then 23 else 0)
  else if e.k=3 then (if byO C.F o≠0∨o.a=true then 29 else 0)
  else if e.k=4 then (if o.a=true then 1 else 0)
  else if e.k=5 then (if e.tk<o.t.un∨byO C.F o≠0∨o.a=true then 26 else 0)
  else if e.k=6 then (if o.r=true then 1 else 0)
  else (if (if byO C.F o=0∧o.a=true then 6 else byO C.F o)=0∨(if byO C.F o=0∧o.a=true then 6 else byO C.F o)≠e.e then 1 else 0):=by
  unfold ZE;rw[if_neg h,if_neg (by omega),if_neg (by omega),if_neg hl,ho,hy]
theorem w18c {a b nm d e1 f gs:Int} {L:List EvZ} {e:EvZ} {w0:World} {S:Sc} {Q:Exit→St→Prop} {os:List OrZ} (hS:S.m=1) (hcf:VA a b nm d e1 f gs=true) (hlen:L.length≤1000) (hos:OkL (cfC a b nm f gs) L os) (htk0:¬ e.tk<ZS L) (k1:e.k=1) (hc0:0≤e.c) (hc1:e.c<a*b) (hQ:∀ s:St,lk s.tl 6=.int .i64 (ZE (cfC a b nm f gs) L e)→Imp 1 ⟨[(0,.int .i64 (ZE (cfC a b nm f gs) L e))],s.hl,s.nb⟩ (E18 L (ZE (cfC a b nm f gs) L e))→Q .ret s):Wm Try.prog w0 S Try.f18.ntmps [] r18c (S18 a b nm d e1 f gs L e [(7,.int .i64 (Zq e.c L))]) Q:=by
  have hE:Zd Try.prog (EL [(23,rdS d23 ok23),(28,rdS d28 ok28),(29,rdS d29 ok29),(30,rdS d30 ok30),(31,rdS d31 ok31)]):=Zf (by simp only[List.mem_cons,List.not_mem_nil,or_false,forall_eq_or_imp,forall_eq];exact ⟨s23,s28,s29,s30,s31⟩);have hT:=XO L;have hC:=XS L;have hl:=Z6 L;have hD:=YN L;have htk:(Zy L).take L.length=Zy L:=List.take_of_length_le (by rw[hl];exact Nat.le_refl _);have hm:Xm YO (Zy L)=some L:=Zv (f:=YO) (g:=evR) Yb L;have hCo:=Xz hcf;have hcx:=YF hcf;have hca:=XU hcf;have hI:=YD hCo hos;have hgz:=hI.gen e.c;have hg0:=vT hI e.c;have hg15:Zq e.c L≤15:=by
    rw[hgz];unfold zu;cases hz:Yz e.c os with
    | none=>simp only;omega
    | some o =>
      have:=(hI.ok o (Vn hz).1).2.2.2.1;have h1:(cfC a b nm f gs).G=gs:=rfl;simp only;omega
  have hw:IntKind.wrap .i64 (Zq e.c L+1)=Zq e.c L+1:=Zh (by omega) (by omega);simp only[S18,List.cons_append,List.nil_append];unfold r18c;by_cases hg:0<Zq e.c L
  · obtain ⟨⟨o,bo⟩,hs⟩:∃ s,ofL f e.c (Zq e.c L) L=s:=⟨_,rfl⟩
    have h23:d23 [.agg [.int .i64 a,.int .i64 b,.int .i64 nm,.int .i64 d,.int .i64 e1,.int .i64 f,.int .i64 gs],.sl (.top 0) 0 L.length,.int .i64 e.c,.int .i64 (Zq e.c L)] [.view 0 14 (Zy L)]=some (ofA (o,bo)):=by
      simp only[d23,hm];rw[if_pos ⟨hl.symm,hcf,hlen,os,hos⟩,hs]
    simp only[ofA,orC]at h23
    by_cases h27:o.e=0
    · have hv:ZE (cfC a b nm f gs) L e=27:=by
        rw[To htk0 k1];rw[if_neg (show ¬ (e.c<0∨(cfC a b nm f gs).n≤e.c) from fun q=>by have h1:(cfC a b nm f gs).n=a*b:=rfl;omega)];rw[if_pos (show 0<Zq e.c L∧(ofL (cfC a b nm f gs).F e.c (Zq e.c L) L).1.e=0 from ⟨hg,by rw[show (cfC a b nm f gs).F=f from rfl,hs];exact h27⟩)]
      rw[hv]at hQ
      repeat' with_reducible (first|refine ZR.h ?_|refine zI ?_|((first|refine zK hE ?_|refine zM hE ?_);intro K hK;simp[hT,hC,hl,hD,htk,hg,h23,h27];(repeat' (first|refine hK _ _ ?_|apply And.intro|(intro hc;try subst hc)))<;>(try clear hK K))|(refine zJ (fun hc=>?_) (fun hc=>?_)<;>simp at hc<;>(try subst hc)))
      all_goals first|(simp;done)|(exfalso;omega)|(refine hQ _ rfl ?_;(try simp only[E18,S18]);refine Imp.aut ?_ ?_<;>simp[NLe,Zg,hT,hC])
    · by_cases h28:gs≤Zq e.c L
      · have hv:ZE (cfC a b nm f gs) L e=28:=by
          rw[To htk0 k1];rw[if_neg (show ¬ (e.c<0∨(cfC a b nm f gs).n≤e.c) from fun q=>by have h1:(cfC a b nm f gs).n=a*b:=rfl;omega)];rw[if_neg (show ¬ (0<Zq e.c L∧(ofL (cfC a b nm f gs).F e.c (Zq e.c L) L).1.e=0) from fun q=>h27 (by have:=q.2;rw[show (cfC a b nm f gs).F=f from rfl,hs]at this;exact this))];rw[if_pos (show (cfC a b nm f gs).G≤Zq e.c L from h28)]
        rw[hv]at hQ
        repeat' with_reducible (first|refine ZR.h ?_|refine zI ?_|((first|refine zK hE ?_|refine zM hE ?_);intro K hK;simp[hT,hC,hl,hD,htk,hg,h23,h27,h28];(repeat' (first|refine hK _ _ ?_|apply And.intro|(intro hc;try subst hc)))<;>(try clear hK K))|(refine zJ (fun hc=>?_) (fun hc=>?_)<;>simp at hc<;>(try subst hc)))
        all_goals first|(simp;done)|(exfalso;omega)|(refine hQ _ rfl ?_;(try simp only[E18,S18]);refine Imp.aut ?_ ?_<;>simp[NLe,Zg,hT,hC])
      · by_cases h20:e.g≠Zq e.c L+1
        · have hv:ZE (cfC a b nm f gs) L e=20:=by
            rw[To htk0 k1];rw[if_neg (show ¬ (e.c<0∨(cfC a b nm f gs).n≤e.c) from fun q=>by have h1:(cfC a b nm f gs).n=a*b:=rfl;omega)];rw[if_neg (show ¬ (0<Zq e.c L∧(ofL (cfC a b nm f gs).F e.c (Zq e.c L) L).1.e=0) from fun q=>h27 (by have:=q.2;rw[show (cfC a b nm f gs).F=f from rfl,hs]at this;exact this))];rw[if_neg (show ¬ (cfC a b nm f gs).G≤Zq e.c L from h28)];rw[if_pos h20]
          rw[hv]at hQ
          repeat' with_reducible (first|refine ZR.h ?_|refine zI ?_|((first|refine zK hE ?_|refine zM hE ?_);intro K hK;simp[hT,hC,hl,hD,htk,hg,h23,h27,h28,h20,hw];(repeat' (first|refine hK _ _ ?_|apply And.intro|(intro hc;try subst hc)))<;>(try clear hK K))|(refine zJ (fun hc=>?_) (fun hc=>?_)<;>simp at hc<;>(try subst hc)))
          all_goals first|(simp;done)|(exfalso;omega)|(refine hQ _ rfl ?_;(try simp only[E18,S18]);refine Imp.aut ?_ ?_<;>simp[NLe,Zg,hT,hC])
        · have h20e:e.g=Zq e.c L+1:=by simpa using h20
          have h28k:d28 [.agg [.int .i64 a,.int .i64 b,.int .i64 nm,.int .i64 d,.int .i64 e1,.int .i64 f,.int .i64 gs],.agg [.int .i64 e.t.nm,.int .i64 e.t.sd,.int .i64 e.t.pr,.int .i64 e.t.le,.int .i64 e.t.un],.int .i64 e.q,.int .i64 0] []=some (.int .i64 (ZL nm e.t e.q 0)):=rfl
          have hv:ZE (cfC a b nm f gs) L e=ZL nm e.t e.q 0:=by
            rw[To htk0 k1];rw[if_neg (show ¬ (e.c<0∨(cfC a b nm f gs).n≤e.c) from fun q=>by have h1:(cfC a b nm f gs).n=a*b:=rfl;omega)];rw[if_neg (show ¬ (0<Zq e.c L∧(ofL (cfC a b nm f gs).F e.c (Zq e.c L) L).1.e=0) from fun q=>h27 (by have:=q.2;rw[show (cfC a b nm f gs).F=f from rfl,hs]at this;exact this))];rw[if_neg (show ¬ (cfC a b nm f gs).G≤Zq e.c L from h28)];rw[if_neg h20]
            rfl
          rw[hv]at hQ
          repeat' with_reducible (first|refine ZR.h ?_|refine zI ?_|((first|refine zK hE ?_|refine zM hE ?_);intro K hK;simp[hT,hC,hl,hD,htk,hg,h23,h27,h28,h20,h20e,hw,h28k];(repeat' (first|refine hK _ _ ?_|apply And.intro|(intro hc;try subst hc)))<;>(try clear hK K))|(refine zJ (fun hc=>?_) (fun hc=>?_)<;>simp at hc<;>(try subst hc)))
          all_goals first|(simp;done)|(exfalso;omega)|(refine hQ _ rfl ?_;(try simp only[E18,S18]);refine Imp.aut ?_ ?_<;>simp[NLe,Zg,hT,hC])
  · by_cases h28:gs≤Zq e.c L
    · have hv:ZE (cfC a b nm f gs) L e=28:=by
        rw[To htk0 k1];rw[if_neg (show ¬ (e.c<0∨(cfC a b nm f gs).n≤e.c) from fun q=>by have h1:(cfC a b nm f gs).n=a*b:=rfl;omega)];rw[if_neg (show ¬ (0<Zq e.c L∧(ofL (cfC a b nm f gs).F e.c (Zq e.c L) L).1.e=0) from fun q=>hg q.1)];rw[if_pos (show (cfC a b nm f gs).G≤Zq e.c L from h28)]
      rw[hv]at hQ
      repeat' with_reducible (first|refine ZR.h ?_|refine zI ?_|((first|refine zK hE ?_|refine zM hE ?_);intro K hK;simp[hT,hC,hl,hD,htk,hg,h28];(repeat' (first|refine hK _ _ ?_|apply And.intro|(intro hc;try subst hc)))<;>(try clear hK K))|(refine zJ (fun hc=>?_) (fun hc=>?_)<;>simp at hc<;>(try subst hc)))
      all_goals first|(simp;done)|(exfalso;omega)|(refine hQ _ rfl ?_;(try simp only[E18,S18]);refine Imp.aut ?_ ?_<;>simp[NLe,Zg,hT,hC])
    · by_cases h20:e.g≠Zq e.c L+1
      · have hv:ZE (cfC a b nm f gs) L e=20:=by
          rw[To htk0 k1];rw[if_neg (show ¬ (e.c<0∨(cfC a b nm f gs).n≤e.c) from fun q=>by have h1:(cfC a b nm f gs).n=a*b:=rfl;omega)];rw[if_neg (show ¬ (0<Zq e.c L∧(ofL (cfC a b nm f gs).F e.c (Zq e.c L) L).1.e=0) from fun q=>hg q.1)];rw[if_neg (show ¬ (cfC a b nm f gs).G≤Zq e.c L from h28)];rw[if_pos h20]
        rw[hv]at hQ
        repeat' with_reducible (first|refine ZR.h ?_|refine zI ?_|((first|refine zK hE ?_|refine zM hE ?_);intro K hK;simp[hT,hC,hl,hD,htk,hg,h28,h20,hw];(repeat' (first|refine hK _ _ ?_|apply And.intro|(intro hc;try subst hc)))<;>(try clear hK K))|(refine zJ (fun hc=>?_) (fun hc=>?_)<;>simp at hc<;>(try subst hc)))
        all_goals first|(simp;done)|(exfalso;omega)|(refine hQ _ rfl ?_;(try simp only[E18,S18]);refine Imp.aut ?_ ?_<;>simp[NLe,Zg,hT,hC])
      · have h20e:e.g=Zq e.c L+1:=by simpa using h20
        have h28k:d28 [.agg [.int .i64 a,.int .i64 b,.int .i64 nm,.int .i64 d,.int .i64 e1,.int .i64 f,.int .i64 gs],.agg [.int .i64 e.t.nm,.int .i64 e.t.sd,.int .i64 e.t.pr,.int .i64 e.t.le,.int .i64 e.t.un],.int .i64 e.q,.int .i64 0] []=some (.int .i64 (ZL nm e.t e.q 0)):=rfl
        have hv:ZE (cfC a b nm f gs) L e=ZL nm e.t e.q 0:=by
          rw[To htk0 k1];rw[if_neg (show ¬ (e.c<0∨(cfC a b nm f gs).n≤e.c) from fun q=>by have h1:(cfC a b nm f gs).n=a*b:=rfl;omega)];rw[if_neg (show ¬ (0<Zq e.c L∧(ofL (cfC a b nm f gs).F e.c (Zq e.c L) L).1.e=0) from fun q=>hg q.1)];rw[if_neg (show ¬ (cfC a b nm f gs).G≤Zq e.c L from h28)];rw[if_neg h20]
          rfl
        rw[hv]at hQ
        repeat' with_reducible (first|refine ZR.h ?_|refine zI ?_|((first|refine zK hE ?_|refine zM hE ?_);intro K hK;simp[hT,hC,hl,hD,htk,hg,h28,h20,h20e,hw,h28k];(repeat' (first|refine hK _ _ ?_|apply And.intro|(intro hc;try subst hc)))<;>(try clear hK K))|(refine zJ (fun hc=>?_) (fun hc=>?_)<;>simp at hc<;>(try subst hc)))
        all_goals first|(simp;done)|(exfalso;omega)|(refine hQ _ rfl ?_;(try simp only[E18,S18]);refine Imp.aut ?_ ?_<;>simp[NLe,Zg,hT,hC])
def I18 (a b nm d e1 f gs:Int) (L:List EvZ) (e:EvZ) (k:Nat):St:=S18 a b nm d e1 f gs L e [(7,.int .i64 (Zq e.c (L.take k))),(8,.int .i64 k)]
theorem w18a {a b nm d e1 f gs:Int} {L:List EvZ} {e:EvZ} {w0:World} {S:Sc} {Q:Exit→St→Prop} {os:List OrZ} (hS:S.m=1) (hcf:VA a b nm d e1 f gs=true) (hlen:L.length≤1000) (hos:OkL (cfC a b nm f gs) L os) (htk0:¬ e.tk<ZS L) (k1:e.k=1) (hQ:∀ s:St,lk s.tl 6=.int .i64 (ZE (cfC a b nm f gs) L e)→Imp 1 ⟨[(0,.int .i64 (ZE (cfC a b nm f gs) L e))],s.hl,s.nb⟩ (E18 L (ZE (cfC a b nm f gs) L e))→Q .ret s):Wm Try.prog w0 S Try.f18.ntmps [] r18a (S18 a b nm d e1 f gs L e []) Q:=by
  have hE:Zd Try.prog (EL [(23,rdS d23 ok23),(28,rdS d28 ok28),(29,rdS d29 ok29),(30,rdS d30 ok30),(31,rdS d31 ok31)]):=Zf (by simp only[List.mem_cons,List.not_mem_nil,or_false,forall_eq_or_imp,forall_eq];exact ⟨s23,s28,s29,s30,s31⟩);have hT:=XO L;have hC:=XS L;have hl:=Z6 L;have hD:=YN L;have htk:(Zy L).take L.length=Zy L:=List.take_of_length_le (by rw[hl];exact Nat.le_refl _);have hm:Xm YO (Zy L)=some L:=Zv (f:=YO) (g:=evR) Yb L;have hCo:=Xz hcf;have hcx:=YF hcf;have hca:=XU hcf;have hmul:IntKind.wrap .i64 (a*b)=a*b:=Zh (by omega) (by omega);simp only[S18,List.append_nil];unfold r18a;by_cases hc0:e.c<0
  · have hv:ZE (cfC a b nm f gs) L e=21:=by
      rw[To htk0 k1];rw[if_pos (show e.c<0∨(cfC a b nm f gs).n≤e.c from .inl hc0)]
    rw[hv]at hQ
    repeat' with_reducible (first|refine ZR.h ?_|refine zI ?_|((first|refine zK hE ?_|refine zM hE ?_);intro K hK;simp[hT,hC,hl,hD,htk,hc0];(repeat' (first|refine hK _ _ ?_|apply And.intro|(intro hc;try subst hc)))<;>(try clear hK K))|(refine zJ (fun hc=>?_) (fun hc=>?_)<;>simp at hc<;>(try subst hc)))
    all_goals first|(simp;done)|(exfalso;omega)|(refine hQ _ rfl ?_;(try simp only[E18,S18]);refine Imp.aut ?_ ?_<;>simp[NLe,Zg,hT,hC])
  · by_cases hc1:a*b≤e.c
    · have hv:ZE (cfC a b nm f gs) L e=21:=by
        rw[To htk0 k1];rw[if_pos (show e.c<0∨(cfC a b nm f gs).n≤e.c from .inr hc1)]
      rw[hv]at hQ
      repeat' with_reducible (first|refine ZR.h ?_|refine zI ?_|((first|refine zK hE ?_|refine zM hE ?_);intro K hK;simp[hT,hC,hl,hD,htk,hc0,hc1,hmul];(repeat' (first|refine hK _ _ ?_|apply And.intro|(intro hc;try subst hc)))<;>(try clear hK K))|(refine zJ (fun hc=>?_) (fun hc=>?_)<;>simp at hc<;>(try subst hc)))
      all_goals first|(simp;done)|(exfalso;omega)|(refine hQ _ rfl ?_;(try simp only[E18,S18]);refine Imp.aut ?_ ?_<;>simp[NLe,Zg,hT,hC])
    · have hc0n:0≤e.c:=by omega
      have hc1n:e.c<a*b:=by omega
      repeat' with_reducible (first|refine ZR.h ?_|refine zI ?_|((first|refine zK hE ?_|refine zM hE ?_);intro K hK;simp[hT,hC,hl,hD,htk,hc0,hc1,hmul];(repeat' (first|refine hK _ _ ?_|apply And.intro|(intro hc;try subst hc)))<;>(try clear hK K))|(refine zJ (fun hc=>?_) (fun hc=>?_)<;>simp at hc<;>(try subst hc)))
      all_goals refine Z4 (fun k=>I18 a b nm d e1 f gs L e k) (fun k=>k≤L.length) (fun k=>L.length - k) 0 (Nat.zero_le _) ?_ ?_
      · rw[hS]
        simp only[I18,S18,List.cons_append,List.nil_append,List.take_zero,Zq,List.foldl_nil]
        (refine Imp.aut ?_ ?_<;>simp[NLe,Zg,hT,hC])
      intro k hk
      replace hk:k≤L.length:=hk
      simp only[I18,S18,List.cons_append,List.nil_append]
      by_cases hkl:k<L.length
      · obtain ⟨x,hx⟩:∃ x,L[k]?=some x:=⟨_,List.getElem?_eq_getElem hkl⟩
        have hst:Zq e.c (L.take (k+1))=if x.k=1∧x.c=e.c then x.g else Zq e.c (L.take k):=by rw[Ys hx];exact Ut e.c (L.take k) x
        obtain ⟨g0,hg0⟩:∃ z,Zq e.c (L.take k)=z:=⟨_,rfl⟩
        obtain ⟨g1,hg1⟩:∃ z,Zq e.c (L.take (k+1))=z:=⟨_,rfl⟩
        rw[hg0,hg1]at hst
        rw[hg0]
        have ww:IntKind.wrap .i64 ((k:Int)+1)=(k:Int)+1:=Zh (by omega) (by omega)
        have hr1:=VX hx
        have hr2:∀ hk,(Zy L)[k]'hk=evR x:=fun hk=>by rw[List.getElem?_eq_getElem hk]at hr1;exact Option.some.inj hr1
        simp only[evR]at hr1 hr2
        by_cases x1:x.k=1
        · by_cases x2:x.c=e.c
          · rw[if_pos ⟨x1,x2⟩]at hst
            repeat' with_reducible (first|refine ZR.h ?_|refine zI ?_|((first|refine zK hE ?_|refine zM hE ?_);intro K hK;simp[hT,hC,hl,hD,htk,hkl,hr1,hr2,ww,x1,x2];(repeat' (first|refine hK _ _ ?_|apply And.intro|(intro hc;try subst hc)))<;>(try clear hK K))|(refine zJ (fun hc=>?_) (fun hc=>?_)<;>simp at hc<;>(try subst hc)))
            all_goals first|(exfalso;omega)|skip
            all_goals refine ⟨k+1,hkl,Nat.sub_lt_sub_left hkl (Nat.lt_succ_self k),?_⟩
            all_goals simp only[I18,S18,List.cons_append,List.nil_append,hg1,hst]
            all_goals rw[hS]
            all_goals (refine Imp.aut ?_ ?_<;>simp[NLe,Zg,hT,hC])
          · rw[if_neg (fun q=>x2 q.2)]at hst
            repeat' with_reducible (first|refine ZR.h ?_|refine zI ?_|((first|refine zK hE ?_|refine zM hE ?_);intro K hK;simp[hT,hC,hl,hD,htk,hkl,hr1,hr2,ww,x1,x2];(repeat' (first|refine hK _ _ ?_|apply And.intro|(intro hc;try subst hc)))<;>(try clear hK K))|(refine zJ (fun hc=>?_) (fun hc=>?_)<;>simp at hc<;>(try subst hc)))
            all_goals first|(exfalso;omega)|skip
            all_goals refine ⟨k+1,hkl,Nat.sub_lt_sub_left hkl (Nat.lt_succ_self k),?_⟩
            all_goals simp only[I18,S18,List.cons_append,List.nil_append,hg1,hst]
            all_goals rw[hS]
            all_goals (refine Imp.aut ?_ ?_<;>simp[NLe,Zg,hT,hC])
        · rw[if_neg (fun q=>x1 q.1)]at hst
          repeat' with_reducible (first|refine ZR.h ?_|refine zI ?_|((first|refine zK hE ?_|refine zM hE ?_);intro K hK;simp[hT,hC,hl,hD,htk,hkl,hr1,hr2,ww,x1];(repeat' (first|refine hK _ _ ?_|apply And.intro|(intro hc;try subst hc)))<;>(try clear hK K))|(refine zJ (fun hc=>?_) (fun hc=>?_)<;>simp at hc<;>(try subst hc)))
          all_goals first|(exfalso;omega)|skip
          all_goals refine ⟨k+1,hkl,Nat.sub_lt_sub_left hkl (Nat.lt_succ_self k),?_⟩
          all_goals simp only[I18,S18,List.cons_append,List.nil_append,hg1,hst]
          all_goals rw[hS]
          all_goals (refine Imp.aut ?_ ?_<;>simp[NLe,Zg,hT,hC])
      · have hke:k=L.length:=by omega
        subst hke
        rw[List.take_of_length_le (Nat.le_refl _)]
        repeat' with_reducible (first|refine ZR.h ?_|refine zI ?_|((first|refine zK hE ?_|refine zM hE ?_);intro K hK;simp[hT,hC,hl,hD,htk];(repeat' (first|refine hK _ _ ?_|apply And.intro|(intro hc;try subst hc)))<;>(try clear hK K))|(refine zJ (fun hc=>?_) (fun hc=>?_)<;>simp at hc<;>(try subst hc)))
        all_goals refine Xv ?_ (w18c hS hcf hlen hos htk0 k1 hc0n hc1n hQ)
        all_goals rw[hS]
        all_goals simp only[S18,List.cons_append,List.nil_append]
        all_goals (refine Imp.aut ?_ ?_<;>simp[NLe,Zg,hT,hC])
theorem w18b {a b nm d e1 f gs:Int} {L:List EvZ} {e:EvZ} {w0:World} {S:Sc} {Q:Exit→St→Prop} {os:List OrZ} (hS:S.m=1) (hcf:VA a b nm d e1 f gs=true) (hlen:L.length≤1000) (hos:OkL (cfC a b nm f gs) L os) (htk0:¬ e.tk<ZS L) (k1:2≤e.k) (k2:e.k≤7) (hQ:∀ s:St,lk s.tl 6=.int .i64 (ZE (cfC a b nm f gs) L e)→Imp 1 ⟨[(0,.int .i64 (ZE (cfC a b nm f gs) L e))],s.hl,s.nb⟩ (E18 L (ZE (cfC a b nm f gs) L e))→Q .ret s):Wm Try.prog w0 S Try.f18.ntmps [] r18b (S18 a b nm d e1 f gs L e []) Q:=by
  have hE:Zd Try.prog (EL [(23,rdS d23 ok23),(28,rdS d28 ok28),(29,rdS d29 ok29),(30,rdS d30 ok30),(31,rdS d31 ok31)]):=Zf (by simp only[List.mem_cons,List.not_mem_nil,or_false,forall_eq_or_imp,forall_eq];exact ⟨s23,s28,s29,s30,s31⟩);have hT:=XO L;have hC:=XS L;have hl:=Z6 L;have hD:=YN L;have htk:(Zy L).take L.length=Zy L:=List.take_of_length_le (by rw[hl];exact Nat.le_refl _);have hm:Xm YO (Zy L)=some L:=Zv (f:=YO) (g:=evR) Yb L;have hCo:=Xz hcf;have hcx:=YF hcf;have hca:=XU hcf;have h29:∀ c g,d29 [.agg [.int .i64 a,.int .i64 b,.int .i64 nm,.int .i64 d,.int .i64 e1,.int .i64 f,.int .i64 gs],.sl (.top 0) 0 L.length,.int .i64 c,.int .i64 g] [.view 0 14 (Zy L)]=some (Zeu (ofL f c g L)):=fun c g=>by
    simp only[d29,hm];rw[if_pos ⟨hl.symm,hcf,hlen,os,hos⟩]
  have hb1:=vj hCo hos e.c e.g;have hb2:=vj hCo hos e.o e.w;change 0≤(ofL f e.c e.g L).1.l∧_ at hb1;change 0≤(ofL f e.o e.w L).1.l∧_ at hb2;change 0≤(ofL f e.c e.g L).1.l∧(ofL f e.c e.g L).1.l≤9999∧0≤(ofL f e.c e.g L).1.f∧(ofL f e.c e.g L).1.f≤4∧0≤(ofL f e.c e.g L).1.c∧(ofL f e.c e.g L).1.c<24∧0≤(ofL f e.c e.g L).1.t.pr∧(ofL f e.c e.g L).1.t.pr≤9999∧_ at hb1;change 0≤(ofL f e.o e.w L).1.l∧(ofL f e.o e.w L).1.l≤9999∧0≤(ofL f e.o e.w L).1.f∧(ofL f e.o e.w L).1.f≤4∧0≤(ofL f e.o e.w L).1.c∧(ofL f e.o e.w L).1.c<24∧0≤(ofL f e.o e.w L).1.t.pr∧(ofL f e.o e.w L).1.t.pr≤9999∧_ at hb2;have h29a:=h29 e.c e.g;have h29b:=h29 e.o e.w;clear h29;have hcx1:=ZdD (C:=(cfC a b nm f gs)) htk0 k1 k2;change Yr (ofL f e.c e.g L)≠0→_=Yr (ofL f e.c e.g L) at hcx1;have hcx2:=fun h (o y:OrZ) (ho:(ofL f e.c e.g L).1=o) (hy:(ofL f e.o e.w L).1=y)=>can_x (C:=(cfC a b nm f gs)) htk0 k1 k2 h ho hy;change ¬ Yr (ofL f e.c e.g L)≠0→_ at hcx2;obtain ⟨s1,hs1⟩:∃ s,ofL f e.c e.g L=s:=⟨_,rfl⟩;obtain ⟨s2,hs2⟩:∃ s,ofL f e.o e.w L=s:=⟨_,rfl⟩;have hcx3:=fun h=>hcx2 h s1.1 s2.1 (by rw[hs1]) (by rw[hs2]);rw[hs1]at hb1 h29a hcx1;rw[hs2]at hb2 h29b;simp only[show ((cfC a b nm f gs)).F=f from rfl,show ((cfC a b nm f gs)).b=b from rfl,hs1,hs2]at hcx3;obtain ⟨o,bo⟩:=s1;obtain ⟨y,yo⟩:=s2;simp only at hb1 hb2 hcx3;clear hcx2 hs1 hs2;obtain ⟨lv,hlv⟩:∃ z,Yr (o,bo)=z:=⟨_,rfl⟩;obtain ⟨lv2,hlv2⟩:∃ z,Yr (y,yo)=z:=⟨_,rfl⟩;simp only[Zeu,orC,hlv,hlv2]at h29a h29b;rw[hlv]at hcx1 hcx3;rw[hlv2]at hcx3;obtain ⟨by1,hby1⟩:∃ z,byO f o=z:=⟨_,rfl⟩
  obtain ⟨by2,hby2⟩:∃ z,byO f y=z:=⟨_,rfl⟩;have h30a:d30 [.agg [.int .i64 a,.int .i64 b,.int .i64 nm,.int .i64 d,.int .i64 e1,.int .i64 f,.int .i64 gs],.agg (orC o)] []=some (.int .i64 by1):=by simp only[d30,XM,hby1]
  have h30b:d30 [.agg [.int .i64 a,.int .i64 b,.int .i64 nm,.int .i64 d,.int .i64 e1,.int .i64 f,.int .i64 gs],.agg (orC y)] []=some (.int .i64 by2):=by simp only[d30,XM,hby2]
  rw[hby1,hby2]at hcx3;obtain ⟨⟨mq,mp⟩,hmq⟩:∃ z,Zb o.t y.t o.l y.l=z:=⟨_,rfl⟩;have h31:d31 [.agg [.int .i64 o.t.nm,.int .i64 o.t.sd,.int .i64 o.t.pr,.int .i64 o.t.le,.int .i64 o.t.un],.agg [.int .i64 y.t.nm,.int .i64 y.t.sd,.int .i64 y.t.pr,.int .i64 y.t.le,.int .i64 y.t.un],.int .i64 o.l,.int .i64 y.l] []=some (.tup [.int .i64 mq,.int .i64 mp]):=by
    simp only[d31];rw[if_pos (by omega)];show some (AV.tup [.int .i64 (Zb o.t y.t o.l y.l).1,.int .i64 (Zb o.t y.t o.l y.l).2])=_;rw[hmq]
  rw[hmq]at hcx3;simp only at hcx3;have hq1:o.c.tdiv b=o.c / b:=Int.tdiv_eq_ediv_of_nonneg (by omega);have hq2:y.c.tdiv b=y.c / b:=Int.tdiv_eq_ediv_of_nonneg (by omega);have hqw1:IntKind.wrap .i64 (o.c / b)=o.c / b:=Zh (by have:=Int.ediv_nonneg (a:=o.c) (b:=b) (by omega) (by omega);omega) (by have:=Int.ediv_le_self (a:=o.c) b (by omega);omega);have hqw2:IntKind.wrap .i64 (y.c / b)=y.c / b:=Zh (by have:=Int.ediv_nonneg (a:=y.c) (b:=b) (by omega) (by omega);omega) (by have:=Int.ediv_le_self (a:=y.c) b (by omega);omega);have hb0:¬ b=0:=by omega
  simp only[orC]at h30a h30b;clear hlv hlv2 hby1 hby2 hmq;simp only[S18,List.append_nil];unfold r18b;by_cases hl0:lv≠0
  · have hv:ZE (cfC a b nm f gs) L e=lv:=by
      exact hcx1 hl0
    rw[hv]at hQ
    repeat' with_reducible (first|refine ZR.h ?_|refine zI ?_|((first|refine zK hE ?_|refine zM hE ?_);intro K hK;simp[hT,hC,hl,hD,htk,h29a,hl0];(repeat' (first|refine hK _ _ ?_|apply And.intro|(intro hc;try subst hc)))<;>(try clear hK K))|(refine zJ (fun hc=>?_) (fun hc=>?_)<;>simp at hc<;>(try subst hc)))
    all_goals first|(simp;done)|(exfalso;omega)|(refine hQ _ rfl ?_;(try simp only[E18,S18]);refine Imp.aut ?_ ?_<;>simp[NLe,Zg,hT,hC])
  · by_cases hk2:e.k=2
    · by_cases hl2:lv2≠0
      · have hv:ZE (cfC a b nm f gs) L e=lv2:=by
          rw[hcx3 hl0];rw[if_pos hk2];rw[if_pos hl2]
        rw[hv]at hQ
        repeat' with_reducible (first|refine ZR.h ?_|refine zI ?_|((first|refine zK hE ?_|refine zM hE ?_);intro K hK;simp[hT,hC,hl,hD,htk,h29a,hl0,h30a,hk2,h29b,hl2];(repeat' (first|refine hK _ _ ?_|apply And.intro|(intro hc;try subst hc)))<;>(try clear hK K))|(refine zJ (fun hc=>?_) (fun hc=>?_)<;>simp at hc<;>(try subst hc)))
        all_goals first|(simp;done)|(exfalso;omega)|(refine hQ _ rfl ?_;(try simp only[E18,S18]);refine Imp.aut ?_ ?_<;>simp[NLe,Zg,hT,hC])
      · by_cases hown:o.c / b=y.c / b
        · have hv:ZE (cfC a b nm f gs) L e=1:=by
            rw[hcx3 hl0];rw[if_pos hk2];rw[if_neg hl2];rw[if_pos hown]
          rw[hv]at hQ
          repeat' with_reducible (first|refine ZR.h ?_|refine zI ?_|((first|refine zK hE ?_|refine zM hE ?_);intro K hK;simp[hT,hC,hl,hD,htk,h29a,hl0,h30a,hk2,h29b,hl2,hown,hq1,hq2,hqw1,hqw2,hb0];(repeat' (first|refine hK _ _ ?_|apply And.intro|(intro hc;try subst hc)))<;>(try clear hK K))|(refine zJ (fun hc=>?_) (fun hc=>?_)<;>simp at hc<;>(try subst hc)))
          all_goals first|(simp;done)|(exfalso;omega)|(refine hQ _ rfl ?_;(try simp only[E18,S18]);refine Imp.aut ?_ ?_<;>simp[NLe,Zg,hT,hC])
        · by_cases hby1:by1≠0
          · have hv:ZE (cfC a b nm f gs) L e=29:=by
              rw[hcx3 hl0];rw[if_pos hk2];rw[if_neg hl2];rw[if_neg hown];rw[if_pos (.inl hby1)]
            rw[hv]at hQ
            repeat' with_reducible (first|refine ZR.h ?_|refine zI ?_|((first|refine zK hE ?_|refine zM hE ?_);intro K hK;simp[hT,hC,hl,hD,htk,h29a,hl0,h30a,hk2,h29b,hl2,hown,hq1,hq2,hqw1,hqw2,hb0,hby1];(repeat' (first|refine hK _ _ ?_|apply And.intro|(intro hc;try subst hc)))<;>(try clear hK K))|(refine zJ (fun hc=>?_) (fun hc=>?_)<;>simp at hc<;>(try subst hc)))
            all_goals first|(simp;done)|(exfalso;omega)|(refine hQ _ rfl ?_;(try simp only[E18,S18]);refine Imp.aut ?_ ?_<;>simp[NLe,Zg,hT,hC])
          · by_cases hby2:by2≠0
            · have hv:ZE (cfC a b nm f gs) L e=29:=by
                rw[hcx3 hl0];rw[if_pos hk2];rw[if_neg hl2];rw[if_neg hown];rw[if_pos (.inr (.inl hby2))]
              rw[hv]at hQ
              repeat' with_reducible (first|refine ZR.h ?_|refine zI ?_|((first|refine zK hE ?_|refine zM hE ?_);intro K hK;simp[hT,hC,hl,hD,htk,h29a,hl0,h30a,hk2,h29b,hl2,hown,hq1,hq2,hqw1,hqw2,hb0,hby1,hby2,h30b];(repeat' (first|refine hK _ _ ?_|apply And.intro|(intro hc;try subst hc)))<;>(try clear hK K))|(refine zJ (fun hc=>?_) (fun hc=>?_)<;>simp at hc<;>(try subst hc)))
              all_goals first|(simp;done)|(exfalso;omega)|(refine hQ _ rfl ?_;(try simp only[E18,S18]);refine Imp.aut ?_ ?_<;>simp[NLe,Zg,hT,hC])
            · by_cases hya:y.a=true
              · simp only[hya]at h30b
                have hv:ZE (cfC a b nm f gs) L e=29:=by
                  rw[hcx3 hl0];rw[if_pos hk2];rw[if_neg hl2];rw[if_neg hown];rw[if_pos (.inr (.inr hya))]
                rw[hv]at hQ
                repeat' with_reducible (first|refine ZR.h ?_|refine zI ?_|((first|refine zK hE ?_|refine zM hE ?_);intro K hK;simp[hT,hC,hl,hD,htk,h29a,hl0,h30a,hk2,h29b,hl2,hown,hq1,hq2,hqw1,hqw2,hb0,hby1,hby2,h30b,hya];(repeat' (first|refine hK _ _ ?_|apply And.intro|(intro hc;try subst hc)))<;>(try clear hK K))|(refine zJ (fun hc=>?_) (fun hc=>?_)<;>simp at hc<;>(try subst hc)))
                all_goals first|(simp;done)|(exfalso;omega)|(refine hQ _ rfl ?_;(try simp only[E18,S18]);refine Imp.aut ?_ ?_<;>simp[NLe,Zg,hT,hC])
              · have hyan:y.a=false:=by simpa using hya
                simp only[hyan]at h30b
                by_cases hm0:mq=0
                · have hv:ZE (cfC a b nm f gs) L e=23:=by
                    rw[hcx3 hl0];rw[if_pos hk2];rw[if_neg hl2];rw[if_neg hown];rw[if_neg (fun q=>by rcases q with q|q|q<;>simp_all)];rw[if_pos (.inl hm0)]
                  rw[hv]at hQ
                  repeat' with_reducible (first|refine ZR.h ?_|refine zI ?_|((first|refine zK hE ?_|refine zM hE ?_);intro K hK;simp[hT,hC,hl,hD,htk,h29a,hl0,h30a,hk2,h29b,hl2,hown,hby1,hby2,hya,h30b,h31,hq1,hq2,hqw1,hqw2,hb0,hm0];(repeat' (first|refine hK _ _ ?_|apply And.intro|(intro hc;try subst hc)))<;>(try clear hK K))|(refine zJ (fun hc=>?_) (fun hc=>?_)<;>simp at hc<;>(try subst hc)))
                  all_goals first|(simp;done)|(exfalso;omega)|(refine hQ _ rfl ?_;(try simp only[E18,S18]);refine Imp.aut ?_ ?_<;>simp[NLe,Zg,hT,hC])
                · by_cases hm1:mq≠e.q
                  · have hv:ZE (cfC a b nm f gs) L e=23:=by
                      rw[hcx3 hl0];rw[if_pos hk2];rw[if_neg hl2];rw[if_neg hown];rw[if_neg (fun q=>by rcases q with q|q|q<;>simp_all)];rw[if_pos (.inr (.inl hm1))]
                    rw[hv]at hQ
                    repeat' with_reducible (first|refine ZR.h ?_|refine zI ?_|((first|refine zK hE ?_|refine zM hE ?_);intro K hK;simp[hT,hC,hl,hD,htk,h29a,hl0,h30a,hk2,h29b,hl2,hown,hby1,hby2,hya,h30b,h31,hq1,hq2,hqw1,hqw2,hb0,hm0,hm1];(repeat' (first|refine hK _ _ ?_|apply And.intro|(intro hc;try subst hc)))<;>(try clear hK K))|(refine zJ (fun hc=>?_) (fun hc=>?_)<;>simp at hc<;>(try subst hc)))
                    all_goals first|(simp;done)|(exfalso;omega)|(refine hQ _ rfl ?_;(try simp only[E18,S18]);refine Imp.aut ?_ ?_<;>simp[NLe,Zg,hT,hC])
                  · by_cases hm2:mp≠e.p
                    · have hv:ZE (cfC a b nm f gs) L e=23:=by
                        rw[hcx3 hl0];rw[if_pos hk2];rw[if_neg hl2];rw[if_neg hown];rw[if_neg (fun q=>by rcases q with q|q|q<;>simp_all)];rw[if_pos (.inr (.inr hm2))]
                      rw[hv]at hQ
                      repeat' with_reducible (first|refine ZR.h ?_|refine zI ?_|((first|refine zK hE ?_|refine zM hE ?_);intro K hK;simp[hT,hC,hl,hD,htk,h29a,hl0,h30a,hk2,h29b,hl2,hown,hby1,hby2,hya,h30b,h31,hq1,hq2,hqw1,hqw2,hb0,hm0,hm1,hm2];(repeat' (first|refine hK _ _ ?_|apply And.intro|(intro hc;try subst hc)))<;>(try clear hK K))|(refine zJ (fun hc=>?_) (fun hc=>?_)<;>simp at hc<;>(try subst hc)))
                      all_goals first|(simp;done)|(exfalso;omega)|(refine hQ _ rfl ?_;(try simp only[E18,S18]);refine Imp.aut ?_ ?_<;>simp[NLe,Zg,hT,hC])
                    · have hv:ZE (cfC a b nm f gs) L e=0:=by
                        rw[hcx3 hl0];rw[if_pos hk2];rw[if_neg hl2];rw[if_neg hown];rw[if_neg (fun q=>by rcases q with q|q|q<;>simp_all)];rw[if_neg (fun q=>by rcases q with q|q|q<;>simp_all)]
                      rw[hv]at hQ
                      repeat' with_reducible (first|refine ZR.h ?_|refine zI ?_|((first|refine zK hE ?_|refine zM hE ?_);intro K hK;simp[hT,hC,hl,hD,htk,h29a,hl0,h30a,hk2,h29b,hl2,hown,hby1,hby2,hya,h30b,h31,hq1,hq2,hqw1,hqw2,hb0,hm0,hm1,hm2];(repeat' (first|refine hK _ _ ?_|apply And.intro|(intro hc;try subst hc)))<;>(try clear hK K))|(refine zJ (fun hc=>?_) (fun hc=>?_)<;>simp at hc<;>(try subst hc)))
                      all_goals first|(simp;done)|(exfalso;omega)|(refine hQ _ rfl ?_;(try simp only[E18,S18]);refine Imp.aut ?_ ?_<;>simp[NLe,Zg,hT,hC])
    · by_cases hk3:e.k=3
      · by_cases hby1:by1≠0
        · have hv:ZE (cfC a b nm f gs) L e=29:=by
            rw[hcx3 hl0];rw[if_neg hk2];rw[if_pos hk3];rw[if_pos (.inl hby1)]
          rw[hv]at hQ
          repeat' with_reducible (first|refine ZR.h ?_|refine zI ?_|((first|refine zK hE ?_|refine zM hE ?_);intro K hK;simp[hT,hC,hl,hD,htk,h29a,hl0,h30a,hk2,hk3,hby1];(repeat' (first|refine hK _ _ ?_|apply And.intro|(intro hc;try subst hc)))<;>(try clear hK K))|(refine zJ (fun hc=>?_) (fun hc=>?_)<;>simp at hc<;>(try subst hc)))
          all_goals first|(simp;done)|(exfalso;omega)|(refine hQ _ rfl ?_;(try simp only[E18,S18]);refine Imp.aut ?_ ?_<;>simp[NLe,Zg,hT,hC])
        · by_cases hoa:o.a=true
          · simp only[hoa]at h30a
            have hv:ZE (cfC a b nm f gs) L e=29:=by
              rw[hcx3 hl0];rw[if_neg hk2];rw[if_pos hk3];rw[if_pos (.inr hoa)]
            rw[hv]at hQ
            repeat' with_reducible (first|refine ZR.h ?_|refine zI ?_|((first|refine zK hE ?_|refine zM hE ?_);intro K hK;simp[hT,hC,hl,hD,htk,h29a,hl0,h30a,hk2,hk3,hby1,hoa];(repeat' (first|refine hK _ _ ?_|apply And.intro|(intro hc;try subst hc)))<;>(try clear hK K))|(refine zJ (fun hc=>?_) (fun hc=>?_)<;>simp at hc<;>(try subst hc)))
            all_goals first|(simp;done)|(exfalso;omega)|(refine hQ _ rfl ?_;(try simp only[E18,S18]);refine Imp.aut ?_ ?_<;>simp[NLe,Zg,hT,hC])
          · have hoan:o.a=false:=by simpa using hoa
            simp only[hoan]at h30a
            have hv:ZE (cfC a b nm f gs) L e=0:=by
              rw[hcx3 hl0];rw[if_neg hk2];rw[if_pos hk3];rw[if_neg (fun q=>by rcases q with q|q<;>simp_all)]
            rw[hv]at hQ
            repeat' with_reducible (first|refine ZR.h ?_|refine zI ?_|((first|refine zK hE ?_|refine zM hE ?_);intro K hK;simp[hT,hC,hl,hD,htk,h29a,hl0,h30a,hk2,hk3,hby1,hoa];(repeat' (first|refine hK _ _ ?_|apply And.intro|(intro hc;try subst hc)))<;>(try clear hK K))|(refine zJ (fun hc=>?_) (fun hc=>?_)<;>simp at hc<;>(try subst hc)))
            all_goals first|(simp;done)|(exfalso;omega)|(refine hQ _ rfl ?_;(try simp only[E18,S18]);refine Imp.aut ?_ ?_<;>simp[NLe,Zg,hT,hC])
      · by_cases hk4:e.k=4
        · by_cases hoa:o.a=true
          · simp only[hoa]at h30a
            have hv:ZE (cfC a b nm f gs) L e=1:=by
              rw[hcx3 hl0];rw[if_neg hk2];rw[if_neg hk3];rw[if_pos hk4];rw[if_pos hoa]
            rw[hv]at hQ
            repeat' with_reducible (first|refine ZR.h ?_|refine zI ?_|((first|refine zK hE ?_|refine zM hE ?_);intro K hK;simp[hT,hC,hl,hD,htk,h29a,hl0,h30a,hk2,hk3,hk4,hoa];(repeat' (first|refine hK _ _ ?_|apply And.intro|(intro hc;try subst hc)))<;>(try clear hK K))|(refine zJ (fun hc=>?_) (fun hc=>?_)<;>simp at hc<;>(try subst hc)))
            all_goals first|(simp;done)|(exfalso;omega)|(refine hQ _ rfl ?_;(try simp only[E18,S18]);refine Imp.aut ?_ ?_<;>simp[NLe,Zg,hT,hC])
          · have hoan:o.a=false:=by simpa using hoa
            simp only[hoan]at h30a
            have hv:ZE (cfC a b nm f gs) L e=0:=by
              rw[hcx3 hl0];rw[if_neg hk2];rw[if_neg hk3];rw[if_pos hk4];rw[if_neg hoa]
            rw[hv]at hQ
            repeat' with_reducible (first|refine ZR.h ?_|refine zI ?_|((first|refine zK hE ?_|refine zM hE ?_);intro K hK;simp[hT,hC,hl,hD,htk,h29a,hl0,h30a,hk2,hk3,hk4,hoa];(repeat' (first|refine hK _ _ ?_|apply And.intro|(intro hc;try subst hc)))<;>(try clear hK K))|(refine zJ (fun hc=>?_) (fun hc=>?_)<;>simp at hc<;>(try subst hc)))
            all_goals first|(simp;done)|(exfalso;omega)|(refine hQ _ rfl ?_;(try simp only[E18,S18]);refine Imp.aut ?_ ?_<;>simp[NLe,Zg,hT,hC])
        · by_cases hk5:e.k=5
          · by_cases htu:e.tk<o.t.un
            · have hv:ZE (cfC a b nm f gs) L e=26:=by
                rw[hcx3 hl0];rw[if_neg hk2];rw[if_neg hk3];rw[if_neg hk4];rw[if_pos hk5];rw[if_pos (.inl htu)]
              rw[hv]at hQ
              repeat' with_reducible (first|refine ZR.h ?_|refine zI ?_|((first|refine zK hE ?_|refine zM hE ?_);intro K hK;simp[hT,hC,hl,hD,htk,h29a,hl0,h30a,hk2,hk3,hk4,hk5,htu];(repeat' (first|refine hK _ _ ?_|apply And.intro|(intro hc;try subst hc)))<;>(try clear hK K))|(refine zJ (fun hc=>?_) (fun hc=>?_)<;>simp at hc<;>(try subst hc)))
              all_goals first|(simp;done)|(exfalso;omega)|(refine hQ _ rfl ?_;(try simp only[E18,S18]);refine Imp.aut ?_ ?_<;>simp[NLe,Zg,hT,hC])
            · by_cases hby1:by1≠0
              · have hv:ZE (cfC a b nm f gs) L e=26:=by
                  rw[hcx3 hl0];rw[if_neg hk2];rw[if_neg hk3];rw[if_neg hk4];rw[if_pos hk5];rw[if_pos (.inr (.inl hby1))]
                rw[hv]at hQ
                repeat' with_reducible (first|refine ZR.h ?_|refine zI ?_|((first|refine zK hE ?_|refine zM hE ?_);intro K hK;simp[hT,hC,hl,hD,htk,h29a,hl0,h30a,hk2,hk3,hk4,hk5,htu,hby1];(repeat' (first|refine hK _ _ ?_|apply And.intro|(intro hc;try subst hc)))<;>(try clear hK K))|(refine zJ (fun hc=>?_) (fun hc=>?_)<;>simp at hc<;>(try subst hc)))
                all_goals first|(simp;done)|(exfalso;omega)|(refine hQ _ rfl ?_;(try simp only[E18,S18]);refine Imp.aut ?_ ?_<;>simp[NLe,Zg,hT,hC])
              · by_cases hoa:o.a=true
                · simp only[hoa]at h30a
                  have hv:ZE (cfC a b nm f gs) L e=26:=by
                    rw[hcx3 hl0];rw[if_neg hk2];rw[if_neg hk3];rw[if_neg hk4];rw[if_pos hk5];rw[if_pos (.inr (.inr hoa))]
                  rw[hv]at hQ
                  repeat' with_reducible (first|refine ZR.h ?_|refine zI ?_|((first|refine zK hE ?_|refine zM hE ?_);intro K hK;simp[hT,hC,hl,hD,htk,h29a,hl0,h30a,hk2,hk3,hk4,hk5,htu,hby1,hoa];(repeat' (first|refine hK _ _ ?_|apply And.intro|(intro hc;try subst hc)))<;>(try clear hK K))|(refine zJ (fun hc=>?_) (fun hc=>?_)<;>simp at hc<;>(try subst hc)))
                  all_goals first|(simp;done)|(exfalso;omega)|(refine hQ _ rfl ?_;(try simp only[E18,S18]);refine Imp.aut ?_ ?_<;>simp[NLe,Zg,hT,hC])
                · have hoan:o.a=false:=by simpa using hoa
                  simp only[hoan]at h30a
                  have hv:ZE (cfC a b nm f gs) L e=0:=by
                    rw[hcx3 hl0];rw[if_neg hk2];rw[if_neg hk3];rw[if_neg hk4];rw[if_pos hk5];rw[if_neg (fun q=>by rcases q with q|q|q<;>simp_all)]
                  rw[hv]at hQ
                  repeat' with_reducible (first|refine ZR.h ?_|refine zI ?_|((first|refine zK hE ?_|refine zM hE ?_);intro K hK;simp[hT,hC,hl,hD,htk,h29a,hl0,h30a,hk2,hk3,hk4,hk5,htu,hby1,hoa];(repeat' (first|refine hK _ _ ?_|apply And.intro|(intro hc;try subst hc)))<;>(try clear hK K))|(refine zJ (fun hc=>?_) (fun hc=>?_)<;>simp at hc<;>(try subst hc)))
                  all_goals first|(simp;done)|(exfalso;omega)|(refine hQ _ rfl ?_;(try simp only[E18,S18]);refine Imp.aut ?_ ?_<;>simp[NLe,Zg,hT,hC])
          · by_cases hk6:e.k=6
            · by_cases hor:o.r=true
              · simp only[hor]at h30a
                have hv:ZE (cfC a b nm f gs) L e=1:=by
                  rw[hcx3 hl0];rw[if_neg hk2];rw[if_neg hk3];rw[if_neg hk4];rw[if_neg hk5];rw[if_pos hk6];rw[if_pos hor]
                rw[hv]at hQ
                repeat' with_reducible (first|refine ZR.h ?_|refine zI ?_|((first|refine zK hE ?_|refine zM hE ?_);intro K hK;simp[hT,hC,hl,hD,htk,h29a,hl0,h30a,hk2,hk3,hk4,hk5,hk6,hor];(repeat' (first|refine hK _ _ ?_|apply And.intro|(intro hc;try subst hc)))<;>(try clear hK K))|(refine zJ (fun hc=>?_) (fun hc=>?_)<;>simp at hc<;>(try subst hc)))
                all_goals first|(simp;done)|(exfalso;omega)|(refine hQ _ rfl ?_;(try simp only[E18,S18]);refine Imp.aut ?_ ?_<;>simp[NLe,Zg,hT,hC])
              · have horn:o.r=false:=by simpa using hor
                simp only[horn]at h30a
                have hv:ZE (cfC a b nm f gs) L e=0:=by
                  rw[hcx3 hl0];rw[if_neg hk2];rw[if_neg hk3];rw[if_neg hk4];rw[if_neg hk5];rw[if_pos hk6];rw[if_neg hor]
                rw[hv]at hQ
                repeat' with_reducible (first|refine ZR.h ?_|refine zI ?_|((first|refine zK hE ?_|refine zM hE ?_);intro K hK;simp[hT,hC,hl,hD,htk,h29a,hl0,h30a,hk2,hk3,hk4,hk5,hk6,hor];(repeat' (first|refine hK _ _ ?_|apply And.intro|(intro hc;try subst hc)))<;>(try clear hK K))|(refine zJ (fun hc=>?_) (fun hc=>?_)<;>simp at hc<;>(try subst hc)))
                all_goals first|(simp;done)|(exfalso;omega)|(refine hQ _ rfl ?_;(try simp only[E18,S18]);refine Imp.aut ?_ ?_<;>simp[NLe,Zg,hT,hC])
            · have hk7:e.k=7:=by omega
              by_cases hby0:by1=0
              · by_cases hoa:o.a=true
                · simp only[hoa]at h30a
                  by_cases h6:e.e=6
                  · have hv:ZE (cfC a b nm f gs) L e=0:=by
                      rw[hcx3 hl0];rw[if_neg hk2];rw[if_neg hk3];rw[if_neg hk4];rw[if_neg hk5];rw[if_neg hk6];simp[hby0,hoa,h6]
                    rw[hv]at hQ
                    repeat' with_reducible (first|refine ZR.h ?_|refine zI ?_|((first|refine zK hE ?_|refine zM hE ?_);intro K hK;simp[hT,hC,hl,hD,htk,h29a,hl0,h30a,hk2,hk3,hk4,hk5,hk6,hk7,hby0,hoa,h6];(repeat' (first|refine hK _ _ ?_|apply And.intro|(intro hc;try subst hc)))<;>(try clear hK K))|(refine zJ (fun hc=>?_) (fun hc=>?_)<;>simp at hc<;>(try subst hc)))
                    all_goals first|(simp;done)|(exfalso;omega)|(refine hQ _ rfl ?_;(try simp only[E18,S18]);refine Imp.aut ?_ ?_<;>simp[NLe,Zg,hT,hC])
                  · have h6n:¬ (6:Int)=e.e:=fun q=>h6 q.symm
                    have hv:ZE (cfC a b nm f gs) L e=1:=by
                      rw[hcx3 hl0];rw[if_neg hk2];rw[if_neg hk3];rw[if_neg hk4];rw[if_neg hk5];rw[if_neg hk6];simp[hby0,hoa,h6n]
                    rw[hv]at hQ
                    repeat' with_reducible (first|refine ZR.h ?_|refine zI ?_|((first|refine zK hE ?_|refine zM hE ?_);intro K hK;simp[hT,hC,hl,hD,htk,h29a,hl0,h30a,hk2,hk3,hk4,hk5,hk6,hk7,hby0,hoa,h6,h6n];(repeat' (first|refine hK _ _ ?_|apply And.intro|(intro hc;try subst hc)))<;>(try clear hK K))|(refine zJ (fun hc=>?_) (fun hc=>?_)<;>simp at hc<;>(try subst hc)))
                    all_goals first|(simp;done)|(exfalso;omega)|(refine hQ _ rfl ?_;(try simp only[E18,S18]);refine Imp.aut ?_ ?_<;>simp[NLe,Zg,hT,hC])
                · have hoan:o.a=false:=by simpa using hoa
                  simp only[hoan]at h30a
                  have hv:ZE (cfC a b nm f gs) L e=1:=by
                    rw[hcx3 hl0];rw[if_neg hk2];rw[if_neg hk3];rw[if_neg hk4];rw[if_neg hk5];rw[if_neg hk6];simp[hby0,hoa]
                  rw[hv]at hQ
                  repeat' with_reducible (first|refine ZR.h ?_|refine zI ?_|((first|refine zK hE ?_|refine zM hE ?_);intro K hK;simp[hT,hC,hl,hD,htk,h29a,hl0,h30a,hk2,hk3,hk4,hk5,hk6,hk7,hby0,hoa];(repeat' (first|refine hK _ _ ?_|apply And.intro|(intro hc;try subst hc)))<;>(try clear hK K))|(refine zJ (fun hc=>?_) (fun hc=>?_)<;>simp at hc<;>(try subst hc)))
                  all_goals first|(simp;done)|(exfalso;omega)|(refine hQ _ rfl ?_;(try simp only[E18,S18]);refine Imp.aut ?_ ?_<;>simp[NLe,Zg,hT,hC])
              · by_cases hbe:by1=e.e
                · have hbe0:¬ e.e=0:=fun q=>hby0 (by rw[hbe,q])
                  have hv:ZE (cfC a b nm f gs) L e=0:=by
                    rw[hcx3 hl0];rw[if_neg hk2];rw[if_neg hk3];rw[if_neg hk4];rw[if_neg hk5];rw[if_neg hk6];simp[hby0,← hbe]
                  rw[hv]at hQ
                  repeat' with_reducible (first|refine ZR.h ?_|refine zI ?_|((first|refine zK hE ?_|refine zM hE ?_);intro K hK;simp[hT,hC,hl,hD,htk,h29a,hl0,h30a,hk2,hk3,hk4,hk5,hk6,hk7,hby0,hbe,hbe0];(repeat' (first|refine hK _ _ ?_|apply And.intro|(intro hc;try subst hc)))<;>(try clear hK K))|(refine zJ (fun hc=>?_) (fun hc=>?_)<;>simp at hc<;>(try subst hc)))
                  all_goals first|(simp;done)|(exfalso;omega)|(refine hQ _ rfl ?_;(try simp only[E18,S18]);refine Imp.aut ?_ ?_<;>simp[NLe,Zg,hT,hC])
                · have hv:ZE (cfC a b nm f gs) L e=1:=by
                    rw[hcx3 hl0];rw[if_neg hk2];rw[if_neg hk3];rw[if_neg hk4];rw[if_neg hk5];rw[if_neg hk6];simp[hby0,hbe]
                  rw[hv]at hQ
                  repeat' with_reducible (first|refine ZR.h ?_|refine zI ?_|((first|refine zK hE ?_|refine zM hE ?_);intro K hK;simp[hT,hC,hl,hD,htk,h29a,hl0,h30a,hk2,hk3,hk4,hk5,hk6,hk7,hby0,hbe];(repeat' (first|refine hK _ _ ?_|apply And.intro|(intro hc;try subst hc)))<;>(try clear hK K))|(refine zJ (fun hc=>?_) (fun hc=>?_)<;>simp at hc<;>(try subst hc)))
                  all_goals first|(simp;done)|(exfalso;omega)|(refine hQ _ rfl ?_;(try simp only[E18,S18]);refine Imp.aut ?_ ?_<;>simp[NLe,Zg,hT,hC])
theorem w18m {a b nm d e1 f gs:Int} {L:List EvZ} {e:EvZ} {w0:World} {S:Sc} {Q:Exit→St→Prop} {os:List OrZ} (hS:S.m=1) (hcf:VA a b nm d e1 f gs=true) (hlen:L.length≤1000) (hos:OkL (cfC a b nm f gs) L os) (htk0:¬ e.tk<ZS L) (hQ:∀ s:St,lk s.tl 6=.int .i64 (ZE (cfC a b nm f gs) L e)→Imp 1 ⟨[(0,.int .i64 (ZE (cfC a b nm f gs) L e))],s.hl,s.nb⟩ (E18 L (ZE (cfC a b nm f gs) L e))→Q .ret s):Wm Try.prog w0 S Try.f18.ntmps [] r18m (S18 a b nm d e1 f gs L e []) Q:=by
  have hE:Zd Try.prog (EL [(23,rdS d23 ok23),(28,rdS d28 ok28),(29,rdS d29 ok29),(30,rdS d30 ok30),(31,rdS d31 ok31)]):=Zf (by simp only[List.mem_cons,List.not_mem_nil,or_false,forall_eq_or_imp,forall_eq];exact ⟨s23,s28,s29,s30,s31⟩);have hT:=XO L;have hC:=XS L;have hl:=Z6 L;have hD:=YN L;have htk:(Zy L).take L.length=Zy L:=List.take_of_length_le (by rw[hl];exact Nat.le_refl _);have hm:Xm YO (Zy L)=some L:=Zv (f:=YO) (g:=evR) Yb L;have hCo:=Xz hcf;have hcx:=YF hcf;have hca:=XU hcf;simp only[S18,List.append_nil];unfold r18m;by_cases hk0:e.k<1
  · have hv:ZE (cfC a b nm f gs) L e=6:=by
      exact Zcc htk0 (.inl hk0)
    rw[hv]at hQ
    repeat' with_reducible (first|refine ZR.h ?_|refine zI ?_|((first|refine zK hE ?_|refine zM hE ?_);intro K hK;simp[hT,hC,hl,hD,htk,hk0];(repeat' (first|refine hK _ _ ?_|apply And.intro|(intro hc;try subst hc)))<;>(try clear hK K))|(refine zJ (fun hc=>?_) (fun hc=>?_)<;>simp at hc<;>(try subst hc)))
    all_goals first|(simp;done)|(exfalso;omega)|(refine hQ _ rfl ?_;(try simp only[E18,S18]);refine Imp.aut ?_ ?_<;>simp[NLe,Zg,hT,hC])
  · by_cases hk7:7<e.k
    · have hv:ZE (cfC a b nm f gs) L e=6:=by
        exact Zcc htk0 (.inr hk7)
      rw[hv]at hQ
      repeat' with_reducible (first|refine ZR.h ?_|refine zI ?_|((first|refine zK hE ?_|refine zM hE ?_);intro K hK;simp[hT,hC,hl,hD,htk,hk0,hk7];(repeat' (first|refine hK _ _ ?_|apply And.intro|(intro hc;try subst hc)))<;>(try clear hK K))|(refine zJ (fun hc=>?_) (fun hc=>?_)<;>simp at hc<;>(try subst hc)))
      all_goals first|(simp;done)|(exfalso;omega)|(refine hQ _ rfl ?_;(try simp only[E18,S18]);refine Imp.aut ?_ ?_<;>simp[NLe,Zg,hT,hC])
    · by_cases hk1:e.k=1
      · repeat' with_reducible (first|refine ZR.h ?_|refine zI ?_|((first|refine zK hE ?_|refine zM hE ?_);intro K hK;simp[hT,hC,hl,hD,htk,hk0,hk7,hk1];(repeat' (first|refine hK _ _ ?_|apply And.intro|(intro hc;try subst hc)))<;>(try clear hK K))|(refine zJ (fun hc=>?_) (fun hc=>?_)<;>simp at hc<;>(try subst hc)))
        all_goals refine Xv (s':=S18 a b nm d e1 f gs L e []) ?_ (w18a hS hcf hlen hos htk0 hk1 hQ)
        all_goals rw[hS]
        all_goals simp only[S18,List.append_nil]
        all_goals (refine Imp.aut ?_ ?_<;>simp[NLe,Zg,hT,hC,hk1])
      · repeat' with_reducible (first|refine ZR.h ?_|refine zI ?_|((first|refine zK hE ?_|refine zM hE ?_);intro K hK;simp[hT,hC,hl,hD,htk,hk0,hk7,hk1];(repeat' (first|refine hK _ _ ?_|apply And.intro|(intro hc;try subst hc)))<;>(try clear hK K))|(refine zJ (fun hc=>?_) (fun hc=>?_)<;>simp at hc<;>(try subst hc)))
        all_goals refine Xv (s':=S18 a b nm d e1 f gs L e []) ?_ (w18b hS hcf hlen hos htk0 (by omega) (by omega) hQ)
        all_goals rw[hS]
        all_goals simp only[S18,List.append_nil]
        all_goals (refine Imp.aut ?_ ?_<;>simp[NLe,Zg,hT,hC,hk1])end Go.W
