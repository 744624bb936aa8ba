/- What all did in a name, by the ledger's rows. -/
import Derived.Test.YtnjdphaopmikgaaLrX
import Derived.Test.YtnjdphaopmikgaaLrB
import Derived.Test.YtnjdphaopmikgaaLqB
import Derived.Test.YtnjdphaopmikgaaLqC
import Derived.Test.YtnjdphaopmikgaaLqD
import Derived.Test.YtnjdphaopmikgaaPsI
namespace Go.W
open Go.Proofs
set_option linter.unusedSimpArgs false
set_option linter.unusedVariables false
set_option maxHeartbeats 8000000
attribute [local irreducible] Wm
attribute [local simp] Yu lkp Ui prs Th prT ddL idL Yn U1 Ren Vz NObj.none ZZ
def YE (r:List R5) (n:Int):R5:=if n<0 then z5 else match r[n.toNat]? with
 | some v=>v
 | none=>z5
def d17:List AV→Option Ans
 | [.op _ lc,.int .i64 p,.int .i64 n]=>(match ZaM lc with
  | some Z=>if 0≤p then (match Z.rows[p.toNat]? with
   | some r=>some ⟨.agg (r5C (YE r n)),[.free]⟩
   | none=>none) else none
  | none=>none)
 | _=>none
theorem ok17:NOk [(9,false)] d17:=by
 intro xs aa h;unfold d17 at h;split at h
 ·split at h
  ·rename_i Z hz
   obtain rfl:=Yv hz
   (repeat' (split at h))<;>first|(cases h;done)|(injection h with h;subst h;refine ⟨Zz ?_,?_⟩<;>simp[Uu,UG,r5C,YT,YV])
  ·cases h
 ·cases h
theorem s17:Sound Try.prog 17 (Zw [(9,false)] d17 ok17):=by
 refine Zm C17.a C17.b C17.c C17.d ok17 (fun xs a h=>?_) fun xs a h w0 S hS=>?_
 ·unfold d17 at h
  (repeat' (split at h))<;>first|(cases h;done)|exact Nat.le_of_ble_eq_true rfl
 unfold d17 at h;split at h
 ·rename_i u lc p n
  split at h
  ·rename_i Z hZ
   obtain rfl:=Yv hZ;clear hZ;have z1:=Ub Z.rows;have z2:=V8 Z.rows;have z3:=UZ Z.last;have z4:=UI Z.last;have l1:=XE Z.rows;have l2:=X6 Z.last;split at h
   ·rename_i hp
    split at h
    ·rename_i r hr
     injection h with h;subst h;obtain ⟨k,rfl⟩:∃ k:Nat,p=(k:Int):=⟨p.toNat,by omega⟩;rw[Int.toNat_natCast]at hr;have hE:Zd Try.prog (EL []):=Zf (by simp);have hk:=(List.getElem?_eq_some_iff.1 hr).1;have hk0:¬ ((k:Int)<0):=(by omega);have hk1:¬ ((Z.rows.length:Int)≤(k:Int)):=(by omega);have hk2:¬ (Z.rows.length≤k):=(by omega);obtain ⟨ga,gb⟩:=Zde hr;have l3:=yr r;simp only[rwC]at ga gb;by_cases hn0:n<0
     ·have hv:YE r n=z5:=by unfold YE;rw[if_pos hn0]
      rw[hv];simp only[lgC,r5C,z5]at hS⊢;unfold m17
      repeat' with_reducible (first|refine ZR.h ?_|refine zI ?_|(refine zK hE ?_;intro K hK;simp[z1,z2,z3,z4,l1,l2,l3,hk,hk0,hk1,hk2,ga,gb,hn0];(repeat' (first|refine hK _ _ ?_|apply And.intro|(intro hc;try subst hc)))<;>(try clear hK K))|(refine zJ (fun hc=>?_) (fun hc=>?_)<;>simp at hc<;>(try subst hc)))
      all_goals first|(simp;done)|(simp at *;omega)|((try simp[z1,z2,z3,z4]);refine Imp.aut ?_ ?_<;>simp[NLe,z1,z2,z3,z4])
     ·obtain ⟨j,rfl⟩:∃ j:Nat,n=(j:Int):=⟨n.toNat,by omega⟩
      have hj0:¬ ((j:Int)<0):=(by omega);by_cases hj:j<r.length
      ·obtain ⟨v,hv⟩:∃ v,r[j]?=some v:=⟨_,List.getElem?_eq_getElem hj⟩
       obtain ⟨gc,gd⟩:=ZcJ hv;have hcv:YE r (j:Int)=v:=(by unfold YE;rw[if_neg hj0,Int.toNat_natCast];simp only[hv]);have hj1:¬ ((r.length:Int)≤(j:Int)):=(by omega);have hj2:¬ (r.length≤j):=(by omega);rw[hcv];simp only[r5C]at gc gd;simp only[lgC,r5C]at hS⊢;unfold m17
       repeat' with_reducible (first|refine ZR.h ?_|refine zI ?_|(refine zK hE ?_;intro K hK;simp[z1,z2,z3,z4,l1,l2,l3,hk,hk0,hk1,hk2,ga,gb,hj0,hj,hj1,hj2,gc,gd];(repeat' (first|refine hK _ _ ?_|apply And.intro|(intro hc;try subst hc)))<;>(try clear hK K))|(refine zJ (fun hc=>?_) (fun hc=>?_)<;>simp at hc<;>(try subst hc)))
       all_goals first|(simp;done)|(simp at *;omega)|((try simp[z1,z2,z3,z4]);refine Imp.aut ?_ ?_<;>simp[NLe,z1,z2,z3,z4])
      ·have hcv:YE r (j:Int)=z5:=by unfold YE;rw[if_neg hj0,Int.toNat_natCast,List.getElem?_eq_none (by omega)]
       have hj1:(r.length:Int)≤(j:Int):=(by omega);have hj2:r.length≤j:=(by omega);rw[hcv];simp only[lgC,r5C,z5]at hS⊢;unfold m17
       repeat' with_reducible (first|refine ZR.h ?_|refine zI ?_|(refine zK hE ?_;intro K hK;simp[z1,z2,z3,z4,l1,l2,l3,hk,hk0,hk1,hk2,ga,gb,hj0,hj1,hj2];(repeat' (first|refine hK _ _ ?_|apply And.intro|(intro hc;try subst hc)))<;>(try clear hK K))|(refine zJ (fun hc=>?_) (fun hc=>?_)<;>simp at hc<;>(try subst hc)))
       all_goals first|(simp;done)|(simp at *;omega)|((try simp[z1,z2,z3,z4]);refine Imp.aut ?_ ?_<;>simp[NLe,z1,z2,z3,z4])
    ·cases h
   ·cases h
  ·cases h
 ·cases h
def YI (R:List (List R5)) (n:Int):R5:=R.foldl (fun s r=>wr5 (add5 s (YE r n))) z5
theorem Tw {R:List (List R5)} {k:Nat} {r:List R5} (h:R[k]?=some r) (n:Int):YI (R.take (k+1)) n=wr5 (add5 (YI (R.take k) n) (YE r n)):=by
 unfold YI;rw[List.take_add_one,h,Option.toList_some,List.foldl_append];rfl
def d27:List AV→Option Ans
 | [.op _ lc,.int .i64 n]=>(match ZaM lc with
  | some Z=>if Z.rows.length≤100000 then some ⟨.agg (r5C (YI Z.rows n)),[.free]⟩ else none
  | none=>none)
 | _=>none
theorem ok27:NOk [(9,false)] d27:=by
 intro xs aa h;unfold d27 at h;split at h
 ·split at h
  ·rename_i Z hz
   obtain rfl:=Yv hz
   (repeat' (split at h))<;>first|(cases h;done)|(injection h with h;subst h;refine ⟨Zz ?_,?_⟩<;>simp[Uu,UG,r5C,YT,YV])
  ·cases h
 ·cases h
def I27 (Z:LgZ) (n:Int) (k:Nat):St:=⟨[(0,.ptr (.top 0) 0 0),(1,.int .i64 n),(4,.ptr (.top 1) 0 0),(5,.ptr (.top 2) 0 0),(14,.int .i64 Z.rows.length),(15,.int .i64 k)],[(0,.view 0 9 [[.int .i64 Z.a,.int .i64 Z.b,.int .i64 Z.c,.int .i64 Z.d,.int .i64 Z.e,.int .i64 Z.f,.int .i64 Z.g,.os 0 1 (Vb Z.rows),.os 0 1 (YY Z.last)]]),(1,.cells 0 [.int .i64 0,.int .i64 0,.int .i64 0,.int .i64 0,.int .i64 0]),(2,.cells 0 (r5C (YI (Z.rows.take k) n)))],3⟩
theorem s27:Sound Try.prog 27 (Zw [(9,false)] d27 ok27):=by
 refine Zm C27.a C27.b C27.c C27.d ok27 (fun xs a h=>?_) fun xs a h w0 S hS=>?_
 ·unfold d27 at h
  (repeat' (split at h))<;>first|(cases h;done)|exact Nat.le_of_ble_eq_true rfl
 unfold d27 at h;split at h
 ·rename_i u lc n
  split at h
  ·rename_i Z hZ
   obtain rfl:=Yv hZ;clear hZ;have z1:=Ub Z.rows;have z2:=V8 Z.rows;have z3:=UZ Z.last;have z4:=UI Z.last;have l1:=XE Z.rows;have l2:=X6 Z.last;split at h
   ·rename_i hn
    injection h with h;subst h;have hE:Zd Try.prog (EL [(17,Zw [(9,false)] d17 ok17),(38,rdS d38 ok38)]):=Zf (by simp only[List.mem_cons,List.not_mem_nil,or_false,forall_eq_or_imp,forall_eq];exact ⟨s17,s38⟩);have h17:∀ (u k:Nat) (r:List R5),Z.rows[k]?=some r→d17 [.op u (lgC Z),.int .i64 (k:Int),.int .i64 n]=some ⟨.agg (r5C (YE r n)),[.free]⟩:=fun u k r hr=>by
     simp only[d17,X8];rw[if_pos (by omega),Int.toNat_natCast];simp only[hr]
    simp only[lgC]at hS h17⊢;change Wm _ _ _ _ _ _ ⟨[(0,.ptr (.top 0) 0 0),(1,.int .i64 n)],[(0,.view 0 9 [[.int .i64 Z.a,.int .i64 Z.b,.int .i64 Z.c,.int .i64 Z.d,.int .i64 Z.e,.int .i64 Z.f,.int .i64 Z.g,.os 0 1 (Vb Z.rows),.os 0 1 (YY Z.last)]])],1⟩ _;unfold m27
    repeat' with_reducible (first|refine ZR.h ?_|refine zI ?_|((first|refine zK hE ?_|refine zM hE ?_);intro K hK;simp[z1,z2,z3,z4,l1,l2];(repeat' (first|refine hK _ _ ?_|apply And.intro|(intro hc;try subst hc)))<;>(try clear hK K))|(refine zJ (fun hc=>?_) (fun hc=>?_)<;>simp at hc<;>(try subst hc)))
    all_goals (refine Z4 (fun k=>I27 Z n k) (fun k=>k≤Z.rows.length) (fun k=>Z.rows.length - k) 0 (Nat.zero_le _) ?_ ?_)
    ·simp only[I27,List.take_zero,YI,List.foldl_nil,z5,r5C]
     rw[hS]
     (refine Imp.aut ?_ ?_<;>simp[NLe,Zg,z1,z2,z3,z4])
    ·intro k hk
     replace hk:k≤Z.rows.length:=hk;simp only[I27];by_cases hkl:k<Z.rows.length
     ·obtain ⟨r,hr⟩:∃ r,Z.rows[k]?=some r:=⟨_,List.getElem?_eq_getElem hkl⟩
      have h17k:=fun u=>h17 u k r hr;have hst:=Tw hr n;obtain ⟨s0,hs0⟩:∃ s,YI (Z.rows.take k) n=s:=⟨_,rfl⟩;obtain ⟨s1,hs1⟩:∃ s,YI (Z.rows.take (k+1)) n=s:=⟨_,rfl⟩;obtain ⟨v,hv⟩:∃ v,YE r n=v:=⟨_,rfl⟩;rw[hs0,hs1,hv]at hst;rw[hv]at h17k;rw[hs0];have h38:d38 [.agg (r5C s0),.agg (r5C v)] []=some (.agg (r5C s1)):=(by rw[hst];rfl);have ww:IntKind.wrap .i64 ((k:Int)+1)=(k:Int)+1:=Zh (by omega) (by omega);simp only[r5C]at h38 h17k⊢;clear hst
      repeat' with_reducible (first|refine ZR.h ?_|refine zI ?_|((first|refine zK hE ?_|refine zM hE ?_);intro K hK;simp[z1,z2,z3,z4,l1,l2,hkl,h17k,h38,ww];(repeat' (first|refine hK _ _ ?_|apply And.intro|(intro hc;try subst hc)))<;>(try clear hK K))|(refine zJ (fun hc=>?_) (fun hc=>?_)<;>simp at hc<;>(try subst hc)))
      all_goals refine ⟨k+1,hkl,Nat.sub_lt_sub_left hkl (Nat.lt_succ_self k),?_⟩
      all_goals simp only[I27,hs1,r5C]
      all_goals rw[hS]
      all_goals (refine Imp.aut ?_ ?_<;>simp[NLe,Zg,z1,z2,z3,z4])
     ·have hke:k=Z.rows.length:=by omega
      subst hke;rw[List.take_of_length_le (Nat.le_refl _)];simp only[r5C]
      repeat' with_reducible (first|refine ZR.h ?_|refine zI ?_|((first|refine zK hE ?_|refine zM hE ?_);intro K hK;simp[z1,z2,z3,z4,l1,l2];(repeat' (first|refine hK _ _ ?_|apply And.intro|(intro hc;try subst hc)))<;>(try clear hK K))|(refine zJ (fun hc=>?_) (fun hc=>?_)<;>simp at hc<;>(try subst hc)))
      all_goals first|(simp;done)|(simp at *;omega)|((try simp[z1,z2,z3,z4]);refine Imp.aut ?_ ?_<;>simp[NLe,Zg,z1,z2,z3,z4])
   ·cases h
  ·cases h
 ·cases h
def T8 (Q:List (List Int)) (n:Int):List Int:=if n<0 then [] else match Q[n.toNat]? with
 | some l=>l
 | none=>[]
def d10:List AV→Option Ans
 | [.op _ lc,.int .i64 n]=>(match ZaM lc with
  | some Z=>if (T8 Z.last n).length≤100000 then some ⟨.os 0 1 (ZY (T8 Z.last n)),[.free]⟩ else none
  | none=>none)
 | _=>none
theorem ok10:NOk [(9,false)] d10:=by
 intro xs aa h;unfold d10 at h;split at h
 ·split at h
  ·rename_i Z hz
   obtain rfl:=Yv hz
   (repeat' (split at h))<;>first|(cases h;done)|(injection h with h;subst h;refine ⟨Zz ?_,?_⟩<;>simp[Uu,UG,r5C,YT,YV])
  ·cases h
 ·cases h
theorem s10:Sound Try.prog 10 (Zw [(9,false)] d10 ok10):=by
 refine Zm C10.a C10.b C10.c C10.d ok10 (fun xs a h=>?_) fun xs a h w0 S hS=>?_
 ·unfold d10 at h
  (repeat' (split at h))<;>first|(cases h;done)|exact Nat.le_of_ble_eq_true rfl
 unfold d10 at h;split at h
 ·rename_i u lc n
  split at h
  ·rename_i Z hZ
   obtain rfl:=Yv hZ;clear hZ;have z1:=Ub Z.rows;have z2:=V8 Z.rows;have z3:=UZ Z.last;have z4:=UI Z.last;have l1:=XE Z.rows;have l2:=X6 Z.last;split at h
   ·rename_i hn
    injection h with h;subst h;have hE:Zd Try.prog (EL [(24,rdS d24 ok24)]):=Zf (by simp only[List.mem_cons,List.not_mem_nil,or_false,forall_eq_or_imp,forall_eq];exact s24);by_cases hn0:n<0
    ·have hv:T8 Z.last n=[]:=by unfold T8;rw[if_pos hn0]
     rw[hv];simp only[lgC,ZY,List.map_nil]at hS⊢;unfold m10
     repeat' with_reducible (first|refine ZR.h ?_|refine zI ?_|(refine zK hE ?_;intro K hK;simp[z1,z2,z3,z4,l1,l2,hn0];(repeat' (first|refine hK _ _ ?_|apply And.intro|(intro hc;try subst hc)))<;>(try clear hK K))|(refine zJ (fun hc=>?_) (fun hc=>?_)<;>simp at hc<;>(try subst hc)))
     all_goals first|(simp;done)|(simp at *;omega)|((try simp[z1,z2,z3,z4]);refine Imp.aut ?_ ?_<;>simp[NLe,z1,z2,z3,z4])
    ·obtain ⟨j,rfl⟩:∃ j:Nat,n=(j:Int):=⟨n.toNat,by omega⟩
     have hj0:¬ ((j:Int)<0):=(by omega);by_cases hj:j<Z.last.length
     ·obtain ⟨l,hl⟩:∃ v,Z.last[j]?=some v:=⟨_,List.getElem?_eq_getElem hj⟩
      obtain ⟨gc,gd⟩:=Zdu hl;have hcv:T8 Z.last (j:Int)=l:=(by unfold T8;rw[if_neg hj0,Int.toNat_natCast];simp only[hl]);have hj1:¬ ((Z.last.length:Int)≤(j:Int)):=(by omega);have hj2:¬ (Z.last.length≤j):=(by omega);rw[hcv]at hn⊢;have y1:=YT l;have y2:=YV l;have y3:=Va l;have y4:=X7 l;have h24:d24 [.sl (.top 0) 0 l.length] [.view 0 1 (ZY l)]=some (.os 0 1 (ZY l)):=by
       have hm:Xm xM (ZY l)=some l:=Zv (f:=xM) (g:=inC) Zal l;simp only[d24,hm];rw[if_pos ⟨y4.symm,by omega⟩]
      have htk:List.take l.length (ZY l)=ZY l:=List.take_of_length_le (by omega);simp only[lsC]at gc gd;simp only[lgC]at hS⊢;unfold m10
      repeat' with_reducible (first|refine ZR.h ?_|refine zI ?_|(refine zK hE ?_;intro K hK;simp[z1,z2,z3,z4,l1,l2,hj0,hj,hj1,hj2,gc,gd,y1,y2,y3,y4,h24,htk];(repeat' (first|refine hK _ _ ?_|apply And.intro|(intro hc;try subst hc)))<;>(try clear hK K))|(refine zJ (fun hc=>?_) (fun hc=>?_)<;>simp at hc<;>(try subst hc)))
      all_goals first|(simp;done)|(simp at *;omega)|((try simp[z1,z2,z3,z4,y1,y2,y4]);refine Imp.aut ?_ ?_<;>simp[NLe,z1,z2,z3,z4,y1,y2,y4])
     ·have hcv:T8 Z.last (j:Int)=[]:=by unfold T8;rw[if_neg hj0,Int.toNat_natCast,List.getElem?_eq_none (by omega)]
      have hj1:(Z.last.length:Int)≤(j:Int):=(by omega);have hj2:Z.last.length≤j:=(by omega);rw[hcv];simp only[lgC,ZY,List.map_nil]at hS⊢;unfold m10
      repeat' with_reducible (first|refine ZR.h ?_|refine zI ?_|(refine zK hE ?_;intro K hK;simp[z1,z2,z3,z4,l1,l2,hj0,hj1,hj2];(repeat' (first|refine hK _ _ ?_|apply And.intro|(intro hc;try subst hc)))<;>(try clear hK K))|(refine zJ (fun hc=>?_) (fun hc=>?_)<;>simp at hc<;>(try subst hc)))
      all_goals first|(simp;done)|(simp at *;omega)|((try simp[z1,z2,z3,z4]);refine Imp.aut ?_ ?_<;>simp[NLe,z1,z2,z3,z4])
   ·cases h
  ·cases h
 ·cases h
def TY (l:List Int):AV:=match l with
 | []=>.tup [.agg [.int .i64 0,.int .i64 0,.int .i64 0,.int .i64 0],.bool false]
 | x :: r=>.tup [.agg [.int .i64 x,.int .i64 (mxL (x :: r)),.int .i64 (mnL (x :: r)),.int .i64 ((x :: r).getLast (by simp))],.bool true]
def d11:List AV→Option Ans
 | [.op _ lc,.int .i64 n]=>(match ZaM lc with
  | some Z=>if (T8 Z.last n).length≤100000 then some ⟨TY (T8 Z.last n),[.free]⟩ else none
  | none=>none)
 | _=>none
theorem ok11:NOk [(9,false)] d11:=by
 intro xs aa h;unfold d11 at h;split at h
 ·split at h
  ·rename_i Z hz
   obtain rfl:=Yv hz
   (repeat' (split at h))<;>first|(cases h;done)|(injection h with h;subst h;unfold TY;refine ⟨Zz ?_,?_⟩<;>(repeat' split)<;>simp[Uu,UG,r5C,YT,YV])
  ·cases h
 ·cases h
theorem s11:Sound Try.prog 11 (Zw [(9,false)] d11 ok11):=by
 refine Zm C11.a C11.b C11.c C11.d ok11 (fun xs a h=>?_) fun xs a h w0 S hS=>?_
 ·unfold d11 at h
  (repeat' (split at h))<;>first|(cases h;done)|exact Nat.le_of_ble_eq_true rfl
 unfold d11 at h;split at h
 ·rename_i u lc n
  split at h
  ·rename_i Z hZ
   obtain rfl:=Yv hZ;clear hZ;have z1:=Ub Z.rows;have z2:=V8 Z.rows;have z3:=UZ Z.last;have z4:=UI Z.last;have l1:=XE Z.rows;have l2:=X6 Z.last;split at h
   ·rename_i hn
    injection h with h;subst h;have hE:Zd Try.prog (EL [(10,Zw [(9,false)] d10 ok10),(25,rdS d25 ok25),(26,rdS d26 ok26)]):=Zf (by simp only[List.mem_cons,List.not_mem_nil,or_false,forall_eq_or_imp,forall_eq];exact ⟨s10,s25,s26⟩);have h10:∀ u,d10 [.op u (lgC Z),.int .i64 n]=some ⟨.os 0 1 (ZY (T8 Z.last n)),[.free]⟩:=fun u=>by
     simp only[d10,X8];rw[if_pos hn]
    obtain ⟨l,hl⟩:∃ l,T8 Z.last n=l:=⟨_,rfl⟩;rw[hl]at h10 hn⊢;have y1:=YT l;have y2:=YV l;have y3:=Va l;have y4:=X7 l;cases l with
    | nil =>
     simp only[lgC,ZY,List.map_nil,TY]at hS h10⊢;unfold m11
     repeat' with_reducible (first|refine ZR.h ?_|refine zI ?_|((first|refine zK hE ?_|refine zM hE ?_);intro K hK;simp[z1,z2,z3,z4,l1,l2,h10];(repeat' (first|refine hK _ _ ?_|apply And.intro|(intro hc;try subst hc)))<;>(try clear hK K))|(refine zJ (fun hc=>?_) (fun hc=>?_)<;>simp at hc<;>(try subst hc)))
     all_goals first|(simp;done)|(simp at *;omega)|((try simp[z1,z2,z3,z4]);refine Imp.aut ?_ ?_<;>simp[NLe,z1,z2,z3,z4])
    | cons x r =>
     have hlast:(x :: r)[r.length]?=some ((x :: r).getLast (by simp)):=by
      rw[List.getLast_eq_getElem];simp
     have hb:TY (x :: r)=.tup [.agg [.int .i64 x,.int .i64 (mxL (x :: r)),.int .i64 (mnL (x :: r)),.int .i64 ((x :: r).getLast (by simp))],.bool true]:=rfl;rw[hb];have hzero:(x :: r)[0]?=some x:=rfl;have hm:Xm xM (ZY (x :: r))=some (x :: r):=Zv (f:=xM) (g:=inC) Zal (x :: r);have hlen:(x :: r).length=r.length+1:=rfl;have h25:d25 [.sl (.top 0) 0 (r.length+1)] [.view 0 1 (ZY (x :: r))]=some (.int .i64 (mxL (x :: r))):=by
      simp only[d25,hm];rw[if_pos ⟨by rw[y4];rfl,by rw[y4,hlen];omega,by rw[y4];exact hn⟩]
     have h26:d26 [.sl (.top 0) 0 (r.length+1)] [.view 0 1 (ZY (x :: r))]=some (.int .i64 (mnL (x :: r))):=by
      simp only[d26,hm];rw[if_pos ⟨by rw[y4];rfl,by rw[y4,hlen];omega,by rw[y4];exact hn⟩]
     rw[hlen]at hn y4;obtain ⟨la,hla⟩:∃ y,(x :: r).getLast (by simp)=y:=⟨_,rfl⟩;obtain ⟨mx,hmx⟩:∃ y,mxL (x :: r)=y:=⟨_,rfl⟩;obtain ⟨mn,hmn⟩:∃ y,mnL (x :: r)=y:=⟨_,rfl⟩;obtain ⟨ga,gb⟩:=ya hlast;obtain ⟨gc,gd⟩:=ya hzero;rw[hla]at ga gb⊢;rw[hmx]at h25⊢;rw[hmn]at h26⊢;clear hlast hzero hm hlen hb hla hmx hmn hl;obtain ⟨m,hm⟩:∃ m,r.length=m:=⟨_,rfl⟩;obtain ⟨I,hI⟩:∃ I,ZY (x :: r)=I:=⟨_,rfl⟩;rw[hm]at hn y4 h25 h26 ga;simp only[hm]at gb;rw[hI]at y1 y2 y3 y4 h25 h26 ga gc h10;simp only[hI]at gb gd;have htk:List.take (m+1) I=I:=List.take_of_length_le (by omega);have hw:IntKind.wrap .i64 ((m:Int)+1 - 1)=(m:Int):=(by rw[Zh (by omega) (by omega)];omega);have hw2:IntKind.wrap .i64 (((m+1:Nat):Int) - 1)=(m:Int):=(by rw[Zh (by omega) (by omega)];omega);have hw3:IntKind.wrap .i64 (m:Int)=(m:Int):=Zh (by omega) (by omega);have hne:¬ ((m:Int)+1=0):=(by omega);have hne2:¬ (m+1=0):=(by omega);simp only[inC]at ga gb gc gd;simp only[lgC]at hS h10⊢;unfold m11
     repeat' with_reducible (first|refine ZR.h ?_|refine zI ?_|((first|refine zK hE ?_|refine zM hE ?_);intro K hK;simp[z1,z2,z3,z4,l1,l2,h10,h25,h26,htk,y1,y2,y3,y4,hw,hw2,hw3,hne,hne2,ga,gb,gc,gd];(repeat' (first|refine hK _ _ ?_|apply And.intro|(intro hc;try subst hc)))<;>(try clear hK K))|(refine zJ (fun hc=>?_) (fun hc=>?_)<;>simp at hc<;>(try subst hc)))
     all_goals first|(simp;done)|(simp at *;omega)|((try simp[z1,z2,z3,z4,y1,y2,y4]);refine Imp.aut ?_ ?_<;>simp[NLe,z1,z2,z3,z4,y1,y2,y4])
   ·cases h
  ·cases h
 ·cases h
def Tp (s:R5):AV:=if s.b=0 then .tup [.int .i64 0,.bool false] else .tup [.int .i64 (s.p / s.b),.bool true]
def d12:List AV→Option Ans
 | [.op _ lc,.int .i64 n]=>(match ZaM lc with
  | some Z=>if Z.rows.length≤100000∧0≤(YI Z.rows n).b∧0≤(YI Z.rows n).p∧(YI Z.rows n).p≤1000000000000 then some ⟨Tp (YI Z.rows n),[.free]⟩ else none
  | none=>none)
 | _=>none
theorem ok12:NOk [(9,false)] d12:=by
 intro xs aa h;unfold d12 at h;split at h
 ·split at h
  ·rename_i Z hz
   obtain rfl:=Yv hz
   (repeat' (split at h))<;>first|(cases h;done)|(injection h with h;subst h;unfold Tp;refine ⟨Zz ?_,?_⟩<;>(repeat' split)<;>simp[Uu,UG,r5C,YT,YV])
  ·cases h
 ·cases h
theorem s12:Sound Try.prog 12 (Zw [(9,false)] d12 ok12):=by
 refine Zm C12.a C12.b C12.c C12.d ok12 (fun xs a h=>?_) fun xs a h w0 S hS=>?_
 ·unfold d12 at h
  (repeat' (split at h))<;>first|(cases h;done)|exact Nat.le_of_ble_eq_true rfl
 unfold d12 at h;split at h
 ·rename_i u lc n
  split at h
  ·rename_i Z hZ
   obtain rfl:=Yv hZ;clear hZ;have z1:=Ub Z.rows;have z2:=V8 Z.rows;have z3:=UZ Z.last;have z4:=UI Z.last;have l1:=XE Z.rows;have l2:=X6 Z.last;split at h
   ·rename_i hn
    injection h with h;subst h;obtain ⟨hn,hb0,hp0,hp1⟩:=hn;have hE:Zd Try.prog (EL [(27,Zw [(9,false)] d27 ok27)]):=Zf (by simp only[List.mem_cons,List.not_mem_nil,or_false,forall_eq_or_imp,forall_eq];exact s27);have h27:∀ u,d27 [.op u (lgC Z),.int .i64 n]=some ⟨.agg (r5C (YI Z.rows n)),[.free]⟩:=fun u=>by
     simp only[d27,X8];rw[if_pos hn]
    obtain ⟨s,hs⟩:∃ s,YI Z.rows n=s:=⟨_,rfl⟩;rw[hs]at h27 hb0 hp0 hp1⊢;clear hs;simp only[lgC,r5C]at hS h27⊢;by_cases hb:s.b=0
    ·have hv:Tp s=.tup [.int .i64 0,.bool false]:=by unfold Tp;rw[if_pos hb]
     rw[hv];unfold m12
     repeat' with_reducible (first|refine ZR.h ?_|refine zI ?_|(refine zK hE ?_;intro K hK;simp[z1,z2,z3,z4,l1,l2,h27,hb];(repeat' (first|refine hK _ _ ?_|apply And.intro|(intro hc;try subst hc)))<;>(try clear hK K))|(refine zJ (fun hc=>?_) (fun hc=>?_)<;>simp at hc<;>(try subst hc)))
     all_goals first|(simp;done)|(simp at *;omega)|((try simp[z1,z2,z3,z4]);refine Imp.aut ?_ ?_<;>simp[NLe,z1,z2,z3,z4])
    ·have hv:Tp s=.tup [.int .i64 (s.p / s.b),.bool true]:=by unfold Tp;rw[if_neg hb]
     rw[hv];have hq:s.p.tdiv s.b=s.p / s.b:=Int.tdiv_eq_ediv_of_nonneg hp0;have hw:IntKind.wrap .i64 (s.p / s.b)=s.p / s.b:=Zh (by have:=Int.ediv_nonneg hp0 hb0;omega) (by have:=Int.ediv_le_self s.b hp0;omega);unfold m12
     repeat' with_reducible (first|refine ZR.h ?_|refine zI ?_|(refine zK hE ?_;intro K hK;simp[z1,z2,z3,z4,l1,l2,h27,hb,hq,hw];(repeat' (first|refine hK _ _ ?_|apply And.intro|(intro hc;try subst hc)))<;>(try clear hK K))|(refine zJ (fun hc=>?_) (fun hc=>?_)<;>simp at hc<;>(try subst hc)))
     all_goals first|(simp;done)|(simp at *;omega)|((try simp[z1,z2,z3,z4]);refine Imp.aut ?_ ?_<;>simp[NLe,z1,z2,z3,z4])
   ·cases h
  ·cases h
 ·cases h
def eW1:EvZ:=⟨1,0,1,0,0,⟨0,0,10,1,5⟩,5,0,0,0⟩
def eW2:EvZ:=⟨1,1,1,0,0,⟨0,1,8,1,5⟩,3,0,0,0⟩
def eW3:EvZ:=⟨2,0,1,1,1,⟨0,0,0,0,0⟩,3,9,0,0⟩
theorem okW3:∃ os,OkL (cfC 2 1 1 2 1) [eW1,eW2,eW3] os :=
 ⟨_,OkL.snoc (L:=[eW1,eW2]) (OkL.snoc (L:=[eW1]) (OkL.snoc (L:=[]) OkL.nil (by kernel_rfl)) (by kernel_rfl)) (by kernel_rfl)⟩
def d6:List AV→List NObj→Option AV
 | [],[]=>some (.bool true)
 | _,_=>none
theorem ok6:ROk d6:=by
 intro xs os r h;unfold d6 at h
 (repeat' (split at h))<;>first|(cases h;done)|(injection h with h;subst h;simp)
theorem s6:Sound Try.prog 6 (rdS d6 ok6):=by
 refine Zn C6.a C6.b C6.c C6.d ok6 fun xs os r h vs ρ0 hvs=>⟨xs,?_,fun _ h=>h,fun w0 S hS=>?_⟩
 ·unfold d6 at h
  (repeat' (split at h))<;>first|(cases h;done)|exact Nat.le_of_ble_eq_true rfl
 unfold d6 at h;split at h
 ·injection h with h
  subst h;have hE:Zd Try.prog (EL [(4,Zw [] d4 ok4),(8,Zw [(14,false)] d8 ok8),(17,Zw [(9,false)] d17 ok17)]):=Zf (by simp only[List.mem_cons,List.not_mem_nil,or_false,forall_eq_or_imp,forall_eq];exact ⟨s4,s8,s17⟩);have hck:Yy 2 1 1 1 0 2 1=-1:=by kernel_rfl
  have h4:d4 [.agg [.int .i64 2,.int .i64 1,.int .i64 1,.int .i64 1,.int .i64 0,.int .i64 2,.int .i64 1]]=some ⟨.tup [.agg [.int .i64 2,.int .i64 1,.int .i64 1,.int .i64 1,.int .i64 0,.int .i64 2,.int .i64 1],.raw .nilIface],[]⟩:=by simp only[d4];rw[if_pos hck]
  have hm:Xm YO (Zy [eW1,eW2,eW3])=some [eW1,eW2,eW3]:=Zv (f:=YO) (g:=evR) Yb _;have h8:∀ u,d8 [.agg [.int .i64 2,.int .i64 1,.int .i64 1,.int .i64 1,.int .i64 0,.int .i64 2,.int .i64 1],.os u 14 (Zy [eW1,eW2,eW3])]=some ⟨.tup [.op 0 (lgC (lgM 2 1 1 1 0 2 1 [eW1,eW2,eW3])),.raw .nilIface],[.free]⟩:=fun u=>by
   simp only[d8,hm];rw[if_pos ⟨by kernel_rfl,by decide,okW3⟩]
  have h17a:∀ u,d17 [.op u (lgC (lgM 2 1 1 1 0 2 1 [eW1,eW2,eW3])),.int .i64 0,.int .i64 0]=some ⟨.agg [.int .i64 3,.int .i64 0,.int .i64 27,.int .i64 0,.int .i64 1],[.free]⟩:=fun u=>by
   have hr:(lgM 2 1 1 1 0 2 1 [eW1,eW2,eW3]).rows[(0:Int).toNat]?=some [⟨3,0,27,0,1⟩]:=(by kernel_rfl);simp only[d17,X8];rw[if_pos (by decide),hr];rfl
  have h17b:∀ u,d17 [.op u (lgC (lgM 2 1 1 1 0 2 1 [eW1,eW2,eW3])),.int .i64 1,.int .i64 0]=some ⟨.agg [.int .i64 0,.int .i64 3,.int .i64 0,.int .i64 27,.int .i64 1],[.free]⟩:=fun u=>by
   have hr:(lgM 2 1 1 1 0 2 1 [eW1,eW2,eW3]).rows[(1:Int).toNat]?=some [⟨0,3,0,27,1⟩]:=(by kernel_rfl);simp only[d17,X8];rw[if_pos (by decide),hr];rfl
  have q1:=Uu (lgM 2 1 1 1 0 2 1 [eW1,eW2,eW3]);have q2:=UG (lgM 2 1 1 1 0 2 1 [eW1,eW2,eW3]);have q3:=T1 (lgM 2 1 1 1 0 2 1 [eW1,eW2,eW3]);have ql:(lgC (lgM 2 1 1 1 0 2 1 [eW1,eW2,eW3])).length=9:=rfl;obtain ⟨lc,hlc⟩:∃ z,lgC (lgM 2 1 1 1 0 2 1 [eW1,eW2,eW3])=z:=⟨_,rfl⟩;rw[hlc]at q1 q2 q3 ql;simp only[hlc]at h8 h17a h17b;clear hlc hm;simp only[Zy,List.map_cons,List.map_nil,evR,eW1,eW2,eW3]at h8;unfold m6
  repeat' with_reducible (first|refine ZR.h ?_|refine zI ?_|(refine zK hE ?_;intro K hK;simp[h4,h8,h17a,h17b,q1,q2,ql];(repeat' (first|refine hK _ _ ?_|apply And.intro|(intro hc;try subst hc)))<;>(try clear hK K))|(refine zJ (fun hc=>?_) (fun hc=>?_)<;>simp at hc<;>(try subst hc)))
  all_goals first|(simp;done)|(simp at *;omega)|((try simp[q1,q2,q3]);refine Imp.aut ?_ ?_<;>simp[NLe,q1,q2,q3])
 ·cases h
end Go.W
namespace Go.W
open Go.Proofs
set_option linter.unusedSimpArgs false
set_option linter.unusedVariables false
set_option maxHeartbeats 8000000
section
variable {a b c d e1 f g:Int} {L:List EvZ} {os:List OrZ}
theorem xY {P N p:Nat} (F:Nat→Nat→R5) (hp:p<P):(mat P N F)[p]?=some ((List.range N).map fun n:Nat=>F p n):=ZT (fun i:Nat=>(List.range N).map fun j:Nat=>F i j) hp
theorem TF (P N:Nat) (F:Nat→Nat→R5):(mat P N F).length=P:=by unfold mat;rw[List.length_map,List.length_range]
theorem Zc8 {N:Nat} (F:Nat→R5) {x:Int} (h0:0≤x) (h1:x<N):YE ((List.range N).map F) x=F x.toNat:=by
 unfold YE;rw[if_neg (by omega),ZT F (by omega)]
theorem Zbl {N:Nat} (F:Nat→R5) {x:Int} (h:¬ (0≤x∧x<N)):YE ((List.range N).map F) x=z5:=by
 unfold YE;by_cases h0:x<0
 ·rw[if_pos h0]
 ·rw[if_neg h0,List.getElem?_eq_none (by rw[List.length_map,List.length_range];omega)]
theorem Za1 {x:Int} (h:¬ (0≤x∧x<c)) (hc:0≤c):YI (lgM a b c d e1 f g L).rows x=z5:=by
 have key:∀ k,YI ((mat a.toNat c.toNat fun p n=>Ug (cfC a b c f g) p n L).take k) x=z5:=fun k=>by
  induction k with
  | zero=>rfl
  | succ k ih =>
   by_cases hk:k<a.toNat
   ·rw[Tw (xY _ hk),ih,Zbl _ (by omega)];kernel_rfl
   ·rw[List.take_of_length_le (by rw[TF];omega)]at ih⊢
    exact ih
 have:=key a.toNat;rw[List.take_of_length_le (by rw[TF];exact Nat.le_refl _)]at this;exact this
theorem Zcm (hcf:VA a b c d e1 f g=true) (h:OkL (cfC a b c f g) L os) (hl:L.length≤1000) {x:Int} (h0:0≤x) (h1:x<c):(YI (lgM a b c d e1 f g L).rows x).b=(X4 (cfC a b c f g) x L).1∧(YI (lgM a b c d e1 f g L).rows x).p=(X4 (cfC a b c f g) x L).2:=by
 have hC:=Xz hcf;have hcx:=YF hcf;have hxN:((x.toNat:Nat):Int)=x:=Int.toNat_of_nonneg h0;have key:∀ k,k≤a.toNat→(YI ((mat a.toNat c.toNat fun p n=>Ug (cfC a b c f g) p n L).take k) x).b=Ts (fun p=>(Ug (cfC a b c f g) p x L).b) k∧(YI ((mat a.toNat c.toNat fun p n=>Ug (cfC a b c f g) p n L).take k) x).p=Ts (fun p=>(Ug (cfC a b c f g) p x L).p) k∧0≤Ts (fun p=>(Ug (cfC a b c f g) p x L).b) k∧Ts (fun p=>(Ug (cfC a b c f g) p x L).b) k≤200000000000*k∧0≤Ts (fun p=>(Ug (cfC a b c f g) p x L).p) k∧Ts (fun p=>(Ug (cfC a b c f g) p x L).p) k≤200000000000*k:=fun k=>by
  induction k with
  | zero=>intro _;exact ⟨rfl,rfl,Int.le_refl _,Int.le_refl _,Int.le_refl _,Int.le_refl _⟩
  | succ k ih =>
   intro hk;obtain ⟨i1,i2,i3,i4,i5,i6⟩:=ih (by omega);have hb:=TC hl (zR hC k x h);obtain ⟨g1,g2,g3,g4,g5,g6,g7,g8,g9,g10⟩:=hb;rw[Tw (xY _ (show k<a.toNat by omega)),Zc8 _ h0 (by omega)];simp only[Ts,wr5,add5,hxN];rw[i1,i2,Zh (by omega) (by omega),Zh (by omega) (by omega)];refine ⟨rfl,rfl,by omega,?_,by omega,?_⟩
   ·have:((k+1:Nat):Int)=k+1:=by omega
    omega
   ·have:((k+1:Nat):Int)=k+1:=by omega
    omega
 obtain ⟨k1,k2,_⟩:=key a.toNat (Nat.le_refl _);rw[List.take_of_length_le (by rw[TF];exact Nat.le_refl _)]at k1 k2;have hP:(cfC a b c f g).n=(a.toNat:Nat)*(cfC a b c f g).b:=by
  show a*b=(a.toNat:Int)*b;rw[Int.toNat_of_nonneg (by omega)]
 obtain ⟨c1,c2⟩:=Zdf hC hP x h;exact ⟨k1.trans c1,k2.trans c2⟩
theorem Zef {x:Int} (h0:0≤x) (h1:x<c):T8 (lgM a b c d e1 f g L).last x=Zr (cfC a b c f g) x L:=by
 unfold T8;rw[if_neg (by omega)];have:(lgM a b c d e1 f g L).last[x.toNat]?=some (Zr (cfC a b c f g) (x.toNat:Nat) L):=ZT (fun n:Nat=>Zr (cfC a b c f g) n L) (by omega);rw[this];simp only;rw[Int.toNat_of_nonneg h0]
theorem Zch {x:Int} (h:¬ (0≤x∧x<c)) (hc:0≤c):T8 (lgM a b c d e1 f g L).last x=[]:=by
 unfold T8;by_cases h0:x<0
 ·rw[if_pos h0]
 ·rw[if_neg h0]
  have:(lgM a b c d e1 f g L).last[x.toNat]?=none:=List.getElem?_eq_none (by unfold lgM Tj;rw[List.length_map,List.length_range];omega);rw[this]
end
def brC (l:List Int):List AV:=[.int .i64 (l.headD 0),.int .i64 (mxL l),.int .i64 (mnL l),.int .i64 (l.getLastD 0)]
theorem ZcW (l:List Int):TY l=.tup [.agg (brC l),.bool (decide (l≠[]))]:=by
 cases l with
 | nil=>rfl
 | cons x r =>
  have:(x :: r).getLastD 0=(x :: r).getLast (by simp):=by rw[List.getLastD_eq_getLast?,List.getLast?_eq_some_getLast (by simp)];rfl
  unfold brC TY;rw[this];simp
theorem Zet (p:Int):brC [p]=[.int .i64 p,.int .i64 p,.int .i64 p,.int .i64 p]:=rfl
theorem Zcj {l:List Int} {j:Nat} {p:Int} (h1:1≤j) (h:l[j]?=some p):brC (l.take (j+1))=[.int .i64 ((l.take j).headD 0),.int .i64 (if mxL (l.take j)<p then p else mxL (l.take j)),.int .i64 (if p<mnL (l.take j) then p else mnL (l.take j)),.int .i64 p]:=by
 unfold brC;rw[ZbT l j p h1 h,ZbX l j p h1 h];have e1:(l.take (j+1)).headD 0=(l.take j).headD 0:=by
  cases l with
  | nil=>simp at h
  | cons x r =>
   obtain ⟨i,rfl⟩:∃ i,j=i+1:=⟨j - 1,by omega⟩
   rfl
 have e2:(l.take (j+1)).getLastD 0=p:=by
  rw[List.take_add_one,h,Option.toList_some,List.getLastD_eq_getLast?,List.getLast?_append]
  rfl
 rw[e1,e2]
end Go.W
