/- A part of the proofs about the pair's laws (MrD). -/
import Derived.Test.YtnjdphaopmikgaaWcK
namespace Go.W
open Go.Proofs
set_option linter.unusedSimpArgs false
set_option linter.unusedVariables false
set_option maxHeartbeats 8000000
attribute [local irreducible] Wm
attribute [local simp] Yu lkp Ui prs Th prT ddL idL Yn U1 Ren Vz NObj.none ZZ
theorem ZcM {c:List AV} (h:ZcT [false,false,false,false,false,false,false,false,false,false,false,false,false,false] c):∃ e,YO c=some e:=by
 obtain ⟨hl,hc⟩:=h
 match c,hl with
 | [c0,c1,c2,c3,c4,c5,c6,c7,c8,c9,c10,c11,c12,c13],_ =>
  obtain ⟨_,_,e1,e2⟩:=hc 0 false rfl;simp only[Yp,Bool.false_eq_true,if_false,List.getElem?_cons_succ,List.getElem?_cons_zero,Option.some.injEq]at e1 e2;subst e1;obtain ⟨v0,rfl,_,_⟩:=e2;obtain ⟨_,_,e1,e2⟩:=hc 1 false rfl;simp only[Yp,Bool.false_eq_true,if_false,List.getElem?_cons_succ,List.getElem?_cons_zero,Option.some.injEq]at e1 e2;subst e1;obtain ⟨v1,rfl,_,_⟩:=e2;obtain ⟨_,_,e1,e2⟩:=hc 2 false rfl;simp only[Yp,Bool.false_eq_true,if_false,List.getElem?_cons_succ,List.getElem?_cons_zero,Option.some.injEq]at e1 e2;subst e1;obtain ⟨v2,rfl,_,_⟩:=e2;obtain ⟨_,_,e1,e2⟩:=hc 3 false rfl;simp only[Yp,Bool.false_eq_true,if_false,List.getElem?_cons_succ,List.getElem?_cons_zero,Option.some.injEq]at e1 e2;subst e1;obtain ⟨v3,rfl,_,_⟩:=e2;obtain ⟨_,_,e1,e2⟩:=hc 4 false rfl;simp only[Yp,Bool.false_eq_true,if_false,List.getElem?_cons_succ,List.getElem?_cons_zero,Option.some.injEq]at e1 e2;subst e1;obtain ⟨v4,rfl,_,_⟩:=e2;obtain ⟨_,_,e1,e2⟩:=hc 5 false rfl;simp only[Yp,Bool.false_eq_true,if_false,List.getElem?_cons_succ,List.getElem?_cons_zero,Option.some.injEq]at e1 e2;subst e1;obtain ⟨v5,rfl,_,_⟩:=e2;obtain ⟨_,_,e1,e2⟩:=hc 6 false rfl;simp only[Yp,Bool.false_eq_true,if_false,List.getElem?_cons_succ,List.getElem?_cons_zero,Option.some.injEq]at e1 e2;subst e1;obtain ⟨v6,rfl,_,_⟩:=e2;obtain ⟨_,_,e1,e2⟩:=hc 7 false rfl;simp only[Yp,Bool.false_eq_true,if_false,List.getElem?_cons_succ,List.getElem?_cons_zero,Option.some.injEq]at e1 e2;subst e1;obtain ⟨v7,rfl,_,_⟩:=e2;obtain ⟨_,_,e1,e2⟩:=hc 8 false rfl
  simp only[Yp,Bool.false_eq_true,if_false,List.getElem?_cons_succ,List.getElem?_cons_zero,Option.some.injEq]at e1 e2;subst e1;obtain ⟨v8,rfl,_,_⟩:=e2;obtain ⟨_,_,e1,e2⟩:=hc 9 false rfl;simp only[Yp,Bool.false_eq_true,if_false,List.getElem?_cons_succ,List.getElem?_cons_zero,Option.some.injEq]at e1 e2;subst e1;obtain ⟨v9,rfl,_,_⟩:=e2;obtain ⟨_,_,e1,e2⟩:=hc 10 false rfl;simp only[Yp,Bool.false_eq_true,if_false,List.getElem?_cons_succ,List.getElem?_cons_zero,Option.some.injEq]at e1 e2;subst e1;obtain ⟨v10,rfl,_,_⟩:=e2;obtain ⟨_,_,e1,e2⟩:=hc 11 false rfl;simp only[Yp,Bool.false_eq_true,if_false,List.getElem?_cons_succ,List.getElem?_cons_zero,Option.some.injEq]at e1 e2;subst e1;obtain ⟨v11,rfl,_,_⟩:=e2;obtain ⟨_,_,e1,e2⟩:=hc 12 false rfl;simp only[Yp,Bool.false_eq_true,if_false,List.getElem?_cons_succ,List.getElem?_cons_zero,Option.some.injEq]at e1 e2;subst e1;obtain ⟨v12,rfl,_,_⟩:=e2;obtain ⟨_,_,e1,e2⟩:=hc 13 false rfl;simp only[Yp,Bool.false_eq_true,if_false,List.getElem?_cons_succ,List.getElem?_cons_zero,Option.some.injEq]at e1 e2;subst e1;obtain ⟨v13,rfl,_,_⟩:=e2;exact ⟨_,rfl⟩
theorem Zb9:∀ {els:List (List AV)},(∀ c,c∈els→ZcT [false,false,false,false,false,false,false,false,false,false,false,false,false,false] c)→∃ L,Xm YO els=some L
 | [],_=>⟨[],rfl⟩
 | r :: l,h=>by
  obtain ⟨e,he⟩:=ZcM (h r (List.mem_cons_self ..));obtain ⟨L,hL⟩:=Zb9 fun c hc=>h c (List.mem_cons_of_mem _ hc);exact ⟨e :: L,by simp only[Xm,he,hL]⟩
theorem Zck {P:Program} {w:World} {base:Nat} {r:Reach} {t e:TypeId} {v:Value} (ht:P.underlying t=some (.slice e)) (hv:Value.okWide P w r base t v) {ρ:Env} {nm:Nm} {n:Nat} (h:Rep ρ (.sl nm 0 n) v):n≤9223372036854775807:=by
 rw[Rep]at h;rcases h with ⟨_,_,h,_⟩ | ⟨_,_,off,h,_⟩
 ·omega
 ·subst h
  simp only[Value.okWide,ht,Cell.okWide,Cell.ok]at hv;have h2:IntKind.i64.max=9223372036854775807:=rfl;obtain ⟨a,b,_⟩:=hv;rw[h2]at b;omega
end Go.W
