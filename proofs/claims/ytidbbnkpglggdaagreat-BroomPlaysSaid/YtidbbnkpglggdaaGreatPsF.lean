/- A part of the proofs about the pair's laws (PsD, PsE, PsF). -/
import Derived.Test.YtidbbnkpglggdaaGreatPsC
namespace Go.W
open Go.Proofs
set_option linter.unusedSimpArgs false
set_option linter.unusedVariables false
set_option maxHeartbeats 8000000
set_option maxRecDepth 100000
attribute [local irreducible] Wm WmA
attribute [local simp] YP lkp Vq prs V9 prT ddL idL Yy Ue Ren Ve NObj.none ZT
def d77:List AV→Option Ans
 | [.op _ [.os _ 1 ws,.int .i64 s,.bot,.bot,.bot,.bot,.bot],.int .i64 i]=>if ws.all isW=true∧0≤s∧s≤1000000000∧0≤i∧i<ws.length then some ⟨.tup [.int .u64 (wAt ws i.toNat),.raw .nilIface],[.cells 0 [.os 0 1 ws,.int .i64 (s+1),.bot,.bot,.bot,.bot,.bot]]⟩ else none
 | _=>none
theorem ok77:NOk [(7,true)] d77:=by
 intro xs a h;unfold d77 at h
 (repeat' (split at h))<;>first|(cases h;done)|(rename_i hc;have h1:=ZW hc.1;have h2:=ZV hc.1;injection h with h;subst h;refine ⟨Zp ?_,?_⟩<;>simp[h1,h2])
theorem s77:Sound Tryz.prog 77 (Zm [(7,true)] d77 ok77):=by
 refine Zi (ac:=?ac) (res:=?res) Tryz.func77 (by kernel_rfl) (ha:=?ha) (hk:=?hk) (hok:=ok77) (fun xs a h=>?_) fun xs a h w0 S hS=>?_
 case ha=>conv=>lhs;cbv
 case hk=>kernel_rfl
 ·unfold d77 at h
  (repeat' (split at h))<;>first|(cases h;done)|exact Nat.le_of_ble_eq_true rfl
 unfold d77 at h;split at h
 ·split at h
  ·rename_i t1 t2 ws s i hcond
   injection h with h;subst h;have hE:Zd Tryz.prog (EL [(75,Zm [(7,false)] d75 ok75),(76,Zm [(7,true)] d76 ok76)]):=Ze (by simp only[List.mem_cons,List.not_mem_nil,or_false,forall_eq_or_imp,forall_eq];exact ⟨s75,s76⟩);obtain ⟨hw,hs0,hs1,hi0,hil⟩:=hcond;obtain ⟨j,rfl⟩:∃ j:Nat,i=(j:Int):=⟨i.toNat,by omega⟩;have hj:j<ws.length:=(by omega);have hjl:¬ ws.length≤j:=(by omega);obtain ⟨hg,hx0,hx1⟩:=Zg8 hw hj;have hT:=ZW hw;have hC:=ZV hw;have hn0:¬ (j:Int)<0:=(by omega);have hnl:¬ (ws.length:Int)≤(j:Int):=(by omega);obtain ⟨x,hx⟩:∃ x,wAt ws j=x:=⟨_,rfl⟩;rw[hx]at hg hx0 hx1;have hgj:ws[j]=[.int .u64 x]:=by rw[List.getElem?_eq_getElem hj]at hg;simpa using hg
   repeat' with_reducible (first|refine ZR.h ?_|refine kI ?_|(refine kR hE ?_;intro K hK;simp[hT,hC,hw,hs0,hs1,hj,hjl,hn0,hnl,hil,hg,hgj,d75,d76];(repeat' (first|refine hK _ _ ?_|apply And.intro|(intro hc;try subst hc)))<;>(try clear hK K))|(refine kT (fun hc=>?_) (fun hc=>?_)<;>simp at hc<;>(try subst hc)))
   all_goals first|(show Zb _ _=true;kernel_rfl)|(simp;done)|(simp at *;omega)|((try simp[hT,hC,hx]);refine Imp.aut ?_ ?_<;>simp[NLe,hT,hC,hx])
  ·cases h
 ·cases h
def d38:List AV→Option Ans
 | [.op _ [.os _ 1 ws,.int .i64 s,.bot,.bot,.bot,.bot,.bot],.int .i64 i,.int .u64 v]=>if ws.all isW=true∧0≤s∧s≤1000000000∧0≤v∧v<18446744073709551616 then some (if i<0 then ⟨.iface 187 .bot,[.cells 0 [.os 0 1 ws,.int .i64 s,.bot,.bot,.bot,.bot,.bot]]⟩ else if (ws.length:Int)≤i then ⟨.iface 187 .bot,[.cells 0 [.os 0 1 ws,.int .i64 s,.bot,.bot,.bot,.bot,.bot]]⟩ else ⟨.raw .nilIface,[.cells 0 [.os 0 1 (ws.set i.toNat [.int .u64 v]),.int .i64 (s+1),.bot,.bot,.bot,.bot,.bot]]⟩) else none
 | _=>none
theorem ok38:NOk [(7,true)] d38:=by
 intro xs a h;unfold d38 at h;split at h
 ·split at h
  ·rename_i t1 t2 ws s i v hc
   have h1:=ZW hc.1;have h2:=ZV hc.1;have hws:=TI hc.1 hc.2.2.2.1 hc.2.2.2.2 i.toNat;have h3:=ZW hws;have h4:=ZV hws;injection h with h;subst h;split
   ·refine ⟨Zp ?_,?_⟩<;>simp[h1,h2]
   ·split
    ·refine ⟨Zp ?_,?_⟩<;>simp[h1,h2]
    ·refine ⟨Zp ?_,?_⟩<;>simp[h1,h2,h3,h4]
  ·cases h
 ·cases h
theorem s38:Sound Tryz.prog 38 (Zm [(7,true)] d38 ok38):=by
 refine Zi (ac:=?ac) (res:=?res) Tryz.func38 (by kernel_rfl) (ha:=?ha) (hk:=?hk) (hok:=ok38) (fun xs a h=>?_) fun xs a h w0 S hS=>?_
 case ha=>conv=>lhs;cbv
 case hk=>kernel_rfl
 ·unfold d38 at h
  (repeat' (split at h))<;>first|(cases h;done)|exact Nat.le_of_ble_eq_true rfl
 unfold d38 at h;split at h
 ·split at h
  ·rename_i t1 t2 ws s i v hcond
   injection h with h;subst h;have hE:Zd Tryz.prog (EL [(75,Zm [(7,false)] d75 ok75),(76,Zm [(7,true)] d76 ok76)]):=Ze (by simp only[List.mem_cons,List.not_mem_nil,or_false,forall_eq_or_imp,forall_eq];exact ⟨s75,s76⟩);obtain ⟨hw,hs0,hs1,hv0,hv1⟩:=hcond;have hT:=ZW hw;have hC:=ZV hw;by_cases hi:i<0
   ·skip
    repeat' with_reducible (first|refine ZR.h ?_|refine kI ?_|(refine kR hE ?_;intro K hK;simp[hT,hC,hw,hi,d75,d76];(repeat' (first|refine hK _ _ ?_|apply And.intro|(intro hc;try subst hc)))<;>(try clear hK K))|(refine kT (fun hc=>?_) (fun hc=>?_)<;>simp at hc<;>(try subst hc)))
    all_goals first|(show Zb _ _=true;kernel_rfl)|(simp;done)|(simp at *;omega)|((try simp[hT,hC,hi]);refine Imp.aut ?_ ?_<;>simp[NLe,hT,hC,hi])
   ·by_cases hl:(ws.length:Int)≤i
    ·skip
     repeat' with_reducible (first|refine ZR.h ?_|refine kI ?_|(refine kR hE ?_;intro K hK;simp[hT,hC,hw,hi,hl,d75,d76];(repeat' (first|refine hK _ _ ?_|apply And.intro|(intro hc;try subst hc)))<;>(try clear hK K))|(refine kT (fun hc=>?_) (fun hc=>?_)<;>simp at hc<;>(try subst hc)))
     all_goals first|(show Zb _ _=true;kernel_rfl)|(simp;done)|(simp at *;omega)|((try simp[hT,hC,hi,hl]);refine Imp.aut ?_ ?_<;>simp[NLe,hT,hC,hi,hl])
    ·obtain ⟨j,rfl⟩:∃ j:Nat,i=(j:Int):=⟨i.toNat,by omega⟩
     have hj:j<ws.length:=(by omega);have hil:(j:Int)<(ws.length:Int):=(by omega);have hjl:¬ ws.length≤j:=(by omega);obtain ⟨hg,hx0,hx1⟩:=Zg8 hw hj;have hws:=TI hw hv0 hv1 j;have hT2:=ZW hws;have hC2:=ZV hws;obtain ⟨x,hx⟩:∃ x,wAt ws j=x:=⟨_,rfl⟩;rw[hx]at hg;have hgj:ws[j]=[.int .u64 x]:=by rw[List.getElem?_eq_getElem hj]at hg;simpa using hg
     repeat' with_reducible (first|refine ZR.h ?_|refine kI ?_|(refine kR hE ?_;intro K hK;simp[hT,hC,hw,hs0,hs1,hi,hl,hj,hjl,hil,hg,hgj,d75,d76];(repeat' (first|refine hK _ _ ?_|apply And.intro|(intro hc;try subst hc)))<;>(try clear hK K))|(refine kT (fun hc=>?_) (fun hc=>?_)<;>simp at hc<;>(try subst hc)))
     all_goals first|(show Zb _ _=true;kernel_rfl)|(simp;done)|(simp at *;omega)|((try simp[hT,hC,hT2,hC2,hi,hl,hjl]);refine Imp.aut ?_ ?_<;>simp[NLe,hT,hC,hT2,hC2,hi,hl,hjl])
  ·cases h
 ·cases h
def d89:List AV→Option Ans
 | [.op _ [.os _ 1 ws,.int .i64 s,.bot,.bot,.bot,.bot,.bot],.int .i64 i,.int .u64 old,.int .u64 v]=>if ws.all isW=true∧0≤s∧s≤1000000000∧0≤v∧v<18446744073709551616∧0≤i∧i<ws.length then some (if wAt ws i.toNat=old then ⟨.tup [.bool true,.raw .nilIface],[.cells 0 [.os 0 1 (ws.set i.toNat [.int .u64 v]),.int .i64 (s+1),.bot,.bot,.bot,.bot,.bot]]⟩ else ⟨.tup [.bool false,.raw .nilIface],[.cells 0 [.os 0 1 ws,.int .i64 (s+1),.bot,.bot,.bot,.bot,.bot]]⟩) else none
 | _=>none
theorem ok89:NOk [(7,true)] d89:=by
 intro xs a h;unfold d89 at h;split at h
 ·split at h
  ·rename_i t1 t2 ws s i old v hc
   have h1:=ZW hc.1;have h2:=ZV hc.1;have hws:=TI hc.1 hc.2.2.2.1 hc.2.2.2.2.1 i.toNat;have h3:=ZW hws;have h4:=ZV hws;injection h with h;subst h;split
   ·refine ⟨Zp ?_,?_⟩<;>simp[h1,h2,h3,h4]
   ·refine ⟨Zp ?_,?_⟩<;>simp[h1,h2]
  ·cases h
 ·cases h
theorem s89:Sound Tryz.prog 89 (Zm [(7,true)] d89 ok89):=by
 refine Zi (ac:=?ac) (res:=?res) Tryz.func89 (by kernel_rfl) (ha:=?ha) (hk:=?hk) (hok:=ok89) (fun xs a h=>?_) fun xs a h w0 S hS=>?_
 case ha=>conv=>lhs;cbv
 case hk=>kernel_rfl
 ·unfold d89 at h
  (repeat' (split at h))<;>first|(cases h;done)|exact Nat.le_of_ble_eq_true rfl
 unfold d89 at h;split at h
 ·split at h
  ·rename_i t1 t2 ws s i old v hcond
   injection h with h;subst h;have hE:Zd Tryz.prog (EL [(75,Zm [(7,false)] d75 ok75),(76,Zm [(7,true)] d76 ok76)]):=Ze (by simp only[List.mem_cons,List.not_mem_nil,or_false,forall_eq_or_imp,forall_eq];exact ⟨s75,s76⟩);obtain ⟨hw,hs0,hs1,hv0,hv1,hi0,hil⟩:=hcond;have hT:=ZW hw;have hC:=ZV hw;obtain ⟨j,rfl⟩:∃ j:Nat,i=(j:Int):=⟨i.toNat,by omega⟩;have hj:j<ws.length:=(by omega);have hjl:¬ ws.length≤j:=(by omega);have hn0:¬ (j:Int)<0:=(by omega);have hnl:¬ (ws.length:Int)≤(j:Int):=(by omega);obtain ⟨hg,hx0,hx1⟩:=Zg8 hw hj;have hws:=TI hw hv0 hv1 j;have hT2:=ZW hws;have hC2:=ZV hws;obtain ⟨x,hx⟩:∃ x,wAt ws j=x:=⟨_,rfl⟩;rw[hx]at hg;have hgj:ws[j]=[.int .u64 x]:=(by rw[List.getElem?_eq_getElem hj]at hg;simpa using hg);simp only[Int.toNat_natCast,hx];by_cases he:x=old
   ·subst he
    repeat' with_reducible (first|refine ZR.h ?_|refine kI ?_|((first|refine kR hE ?_|refine kD hE Zq ?_);intro K hK;simp[hT,hC,hT2,hC2,hws,hw,hs0,hs1,hj,hjl,hn0,hnl,hil,hg,hgj,d75,d76];(repeat' (first|refine hK _ _ ?_|apply And.intro|(intro hc;try subst hc)))<;>(try clear hK K))|(refine kT (fun hc=>?_) (fun hc=>?_)<;>simp at hc<;>(try subst hc)))
    all_goals first|(show Zb _ _=true;kernel_rfl)|(simp;done)|(simp at *;omega)|((try simp[hT,hC,hT2,hC2]);refine Imp.aut ?_ ?_<;>simp[NLe,hT,hC,hT2,hC2])
   ·skip
    repeat' with_reducible (first|refine ZR.h ?_|refine kI ?_|((first|refine kR hE ?_|refine kD hE Zq ?_);intro K hK;simp[hT,hC,hT2,hC2,hw,hs0,hs1,hj,hjl,hn0,hnl,hil,hg,hgj,he,d75,d76];(repeat' (first|refine hK _ _ ?_|apply And.intro|(intro hc;try subst hc)))<;>(try clear hK K))|(refine kT (fun hc=>?_) (fun hc=>?_)<;>simp at hc<;>(try subst hc)))
    all_goals first|(show Zb _ _=true;kernel_rfl)|(simp;done)|(simp at *;omega)|((try simp[hT,hC,hT2,hC2,he]);refine Imp.aut ?_ ?_<;>simp[NLe,hT,hC,hT2,hC2,he])
  ·cases h
 ·cases h
def d8:List AV→Option Ans
 | [.op _ [.os _ 1 ws,.int .i64 s,.bot,.bot,.bot,.bot,.bot]]=>some ⟨.int .i64 s,[.free]⟩
 | _=>none
theorem ok8:NOk [(7,false)] d8:=by
 intro xs a h;unfold d8 at h
 (repeat' (split at h))<;>first|(cases h;done)|(injection h with h;subst h;refine ⟨Zp ?_,?_⟩<;>simp)
theorem s8:Sound Tryz.prog 8 (Zm [(7,false)] d8 ok8):=by
 refine Zi (ac:=?ac) (res:=?res) Tryz.func8 (by kernel_rfl) (ha:=?ha) (hk:=?hk) (hok:=ok8) (fun xs a h=>?_) fun xs a h w0 S hS=>?_
 case ha=>conv=>lhs;cbv
 case hk=>kernel_rfl
 ·unfold d8 at h
  (repeat' (split at h))<;>first|(cases h;done)|exact Nat.le_of_ble_eq_true rfl
 unfold d8 at h;split at h
 ·rename_i t1 t2 ws s
  injection h with h;subst h;have hE:Zd Tryz.prog (EL []):=Ze (by simp)
  repeat' with_reducible (first|refine ZR.h ?_|refine kI ?_|(refine kR hE ?_;intro K hK;simp[];(repeat' (first|refine hK _ _ ?_|apply And.intro|(intro hc;try subst hc)))<;>(try clear hK K))|(refine kT (fun hc=>?_) (fun hc=>?_)<;>simp at hc<;>(try subst hc)))
  all_goals first|(show Zb _ _=true;kernel_rfl)|(simp;done)|(simp at *;omega)|((try simp);refine Imp.aut ?_ ?_<;>simp[NLe])
 ·cases h
def d57:List AV→Option Ans
 | [.op _ [.int .u64 t]]=>if 0≤t∧t≤1000000 then some ⟨.int .i64 t,[.free]⟩ else none
 | _=>none
theorem ok57:NOk [(1,false)] d57:=by
 intro xs a h;unfold d57 at h
 (repeat' (split at h))<;>first|(cases h;done)|(injection h with h;subst h;refine ⟨Zp ?_,?_⟩<;>simp)
theorem s57:Sound Tryz.prog 57 (Zm [(1,false)] d57 ok57):=by
 refine Zi (ac:=?ac) (res:=?res) Tryz.func57 (by kernel_rfl) (ha:=?ha) (hk:=?hk) (hok:=ok57) (fun xs a h=>?_) fun xs a h w0 S hS=>?_
 case ha=>conv=>lhs;cbv
 case hk=>kernel_rfl
 ·unfold d57 at h
  (repeat' (split at h))<;>first|(cases h;done)|exact Nat.le_of_ble_eq_true rfl
 unfold d57 at h;split at h
 ·split at h
  ·rename_i tg t hcond
   injection h with h;subst h;have hE:Zd Tryz.prog (EL []):=Ze (by simp);have w1:IntKind.wrap .i64 t=t:=Zg (by omega) (by omega)
   repeat' with_reducible (first|refine ZR.h ?_|refine kI ?_|(refine kR hE ?_;intro K hK;simp[w1];(repeat' (first|refine hK _ _ ?_|apply And.intro|(intro hc;try subst hc)))<;>(try clear hK K))|(refine kT (fun hc=>?_) (fun hc=>?_)<;>simp at hc<;>(try subst hc)))
   all_goals first|(show Zb _ _=true;kernel_rfl)|(simp;done)|(simp at *;omega)|((try simp);refine Imp.aut ?_ ?_<;>simp[NLe])
  ·cases h
 ·cases h
theorem Zbl (n:Nat):(List.replicate n [AV.int .u64 0]).all isW=true:=by
 rw[List.all_eq_true];intro c hc;rw[List.eq_of_mem_replicate hc];rfl
def d72:List AV→Option Ans
 | [.int .i64 n]=>if 0≤n∧n≤8192 then some ⟨.tup [.op 0 [.os 0 1 (List.replicate n.toNat [.int .u64 0]),.int .i64 0,.bot,.bot,.bot,.bot,.bot],.raw .nilIface],[]⟩ else none
 | _=>none
theorem ok72:NOk [] d72:=by
 intro xs a h;unfold d72 at h;split at h
 ·split at h
  ·rename_i n hc
   have h1:=ZW (Zbl n.toNat);have h2:=ZV (Zbl n.toNat);injection h with h;subst h;refine ⟨Zp ?_,?_⟩<;>simp[h1,h2]
  ·cases h
 ·cases h
theorem s72:Sound Tryz.prog 72 (Zm [] d72 ok72):=by
 refine Zi (ac:=?ac) (res:=?res) Tryz.func72 (by kernel_rfl) (ha:=?ha) (hk:=?hk) (hok:=ok72) (fun xs a h=>?_) fun xs a h w0 S hS=>?_
 case ha=>conv=>lhs;cbv
 case hk=>kernel_rfl
 ·unfold d72 at h
  (repeat' (split at h))<;>first|(cases h;done)|exact Nat.le_of_ble_eq_true rfl
 unfold d72 at h;split at h
 ·split at h
  ·rename_i n hcond
   injection h with h;subst h;have hE:Zd Tryz.prog (EL []):=Ze (by simp);obtain ⟨k,rfl⟩:∃ k:Nat,n=(k:Int):=⟨n.toNat,by omega⟩;have h1:¬ (k:Int)<0:=(by omega);have h2:¬ 8192<(k:Int):=(by omega);have h2':¬ 8192<k:=(by omega);have h3:(k:Int)*8≤281474976710656:=(by omega);have h4:(k:Int)≤9223372036854775807:=(by omega);have hT:=ZW (Zbl k);have hC:=ZV (Zbl k)
   repeat' with_reducible (first|refine ZR.h ?_|refine kI ?_|(refine kR hE ?_;intro K hK;simp[h1,h2,h2',h3,h4,hT,hC];(repeat' (first|refine hK _ _ ?_|apply And.intro|(intro hc;try subst hc)))<;>(try clear hK K))|(refine kT (fun hc=>?_) (fun hc=>?_)<;>simp at hc<;>(try subst hc)))
   all_goals try (show Zb _ _=true;kernel_rfl)
   all_goals ((try simp);refine Imp.trans (Imp.absorb (.top 88) 0 0 72 (by rfl) (by rfl) (by rfl) (.inl ⟨0,1,List.replicate k [.int .u64 0],by simp,by rfl⟩) (by simp)) ?_)
   all_goals (refine Imp.aut ?_ ?_<;>simp[NLe,hT,hC,Xb,ZZ])
  ·cases h
 ·cases h
def Ut:List AV→Bool
 | [.int .i64 w]=>decide (1≤w)&&decide (w≤32)
 | _=>false
def ZM:List AV→Int
 | [.int .i64 w]=>w
 | _=>0
def YV (els:List (List AV)) (i:Nat):Int:=(els.take i).foldl (fun n c=>n+ZM c) 0
theorem Xo {c:List AV} (h:Ut c=true):∃ w:Int,c=[.int .i64 w]∧1≤w∧w≤32:=by
 unfold Ut at h;split at h
 ·simp only[Bool.and_eq_true,decide_eq_true_eq]at h;exact ⟨_,rfl,h⟩
 ·cases h
theorem Zbv {els:List (List AV)} (h:els.all Ut=true):XY els=true :=
 List.all_eq_true.2 fun c hc=>by
  obtain ⟨w,rfl,_⟩:=Xo (List.all_eq_true.1 h c hc)
  rfl
theorem vW:∀ {els:List (List AV)},els.all Ut=true→Yo els=els
 | [],_=>rfl
 | c :: r,h=>by
  simp only[List.all_cons,Bool.and_eq_true]at h;obtain ⟨x,rfl,_⟩:=Xo h.1;simp[Yo,t0L,AV.t0,vW h.2]
theorem vD:∀ {els:List (List AV)},els.all Ut=true→Xr els=true
 | [],_=>rfl
 | c :: r,h=>by
  simp only[List.all_cons,Bool.and_eq_true]at h;obtain ⟨x,rfl,_⟩:=Xo h.1;simp[Xr,clL,AV.cl,vD h.2]
theorem XF {els:List (List AV)} {k:Nat} {w:Int} (h:els[k]?=some [.int .i64 w]):YV els (k+1)=YV els k+w:=by
 unfold YV;rw[List.take_add_one,h,Option.toList_some,List.foldl_append];rfl
theorem Ta {els:List (List AV)} (h:els.all Ut=true):∀ (k:Nat),k≤els.length→0≤YV els k∧YV els k≤32*k
 | 0,_=>by simp[YV]
 | k+1,hk=>by
  obtain ⟨w,hw,h1,h2⟩:=Xo (List.all_eq_true.1 h _ (List.getElem_mem (show k<els.length by omega)));have:=Ta h k (by omega);rw[XF (by rw[List.getElem?_eq_getElem (show k<els.length by omega),hw])];omega
def d113:List AV→List NObj→Option AV
 | [.agg [.sl (.top 0) 0 n],.int .i64 i],[.view 0 1 els]=>if n=els.length∧els.all Ut=true∧els.length≤8∧0≤i∧i≤els.length then some (.int .i64 (YV els i.toNat)) else none
 | _,_=>none
def I84 (els:List (List AV)) (j k:Nat):St:=⟨[(5,.int .i64 (YV els k)),(11,.sl (.top 0) 0 j),(12,.int .i64 j),(13,.int .i64 k)],[(0,.view 0 1 els)],1⟩
theorem ok113:ROk d113:=by
 intro xs os r h;unfold d113 at h
 (repeat' (split at h))<;>first|(cases h;done)|(injection h with h;subst h;simp)
theorem s113:Sound Tryz.prog 113 (rdS d113 ok113):=by
 refine Zo (ac:=?ac) (res:=?res) Tryz.func113 (by kernel_rfl) (ha:=?ha) (hk:=?hk) (hok:=ok113) fun xs os r h vs ρ0 hvs=>?w
 case ha=>conv=>lhs;cbv
 case hk=>kernel_rfl
 refine ⟨xs,?_,fun _ h=>h,fun w0 S hS=>?_⟩
 ·unfold d113 at h
  (repeat' (split at h))<;>first|(cases h;done)|exact Nat.le_of_ble_eq_true rfl
 unfold d113 at h;split at h
 ·split at h
  ·rename_i n i els hcond
   injection h with h;subst h;have hE:Zd Tryz.prog (EL []):=Ze (by simp);obtain ⟨rfl,hw,hlen,hi0,hil⟩:=hcond;obtain ⟨j,rfl⟩:∃ j:Nat,i=(j:Int):=⟨i.toNat,by omega⟩;have hj:j≤els.length:=(by omega);have hT:=vW hw;have hC:=vD hw
   repeat' with_reducible (first|refine ZR.h ?_|refine kI ?_|(refine kR hE ?_;intro K hK;simp[hj,hil];(repeat' (first|refine hK _ _ ?_|apply And.intro|(intro hc;try subst hc)))<;>(try clear hK K))|(refine kT (fun hc=>?_) (fun hc=>?_)<;>simp at hc<;>(try subst hc)))
   all_goals (refine kL (I84 els j) (fun k=>k≤j) (fun k=>j - k) 0 (Nat.zero_le _) ?_ ?_)
   ·simp only[I84]
    rw[hS];refine Imp.aut ?_ ?_<;>simp[NLe,hT,hC,YV]
   ·intro k hk
    replace hk:k≤j:=hk;simp only[I84];by_cases hkn:k<j
    ·have hke:k<els.length:=by omega
     obtain ⟨w,hrow,hw1,hw2⟩:=Xo (List.all_eq_true.1 hw _ (List.getElem_mem hke));have hrow2:els[k]?=some [.int .i64 w]:=(by rw[List.getElem?_eq_getElem hke,hrow]);have hsucc:=XF hrow2;have hb:=Ta hw k (by omega);have hkI:(k:Int)<(j:Int):=(by omega);have w1:IntKind.wrap .i64 ((k:Int)+1)=(k:Int)+1:=Zg (by omega) (by omega);have w2:IntKind.wrap .i64 (YV els k+w)=YV els k+w:=Zg (by omega) (by omega)
     repeat' with_reducible (first|refine ZR.h ?_|refine kI ?_|(refine kR hE ?_;intro K hK;simp[hkn,hkI,hke,hrow,hrow2,w1,w2];(repeat' (first|refine hK _ _ ?_|apply And.intro|(intro hc;try subst hc)))<;>(try clear hK K))|(refine kT (fun hc=>?_) (fun hc=>?_)<;>simp at hc<;>(try subst hc)))
     all_goals refine ⟨k+1,hkn,Nat.sub_lt_sub_left hkn (Nat.lt_succ_self k),?_⟩
     all_goals simp only[I84]
     all_goals rw[hS]
     all_goals (refine Imp.aut ?_ ?_<;>simp[NLe,hT,hC,hsucc])
    ·have hkI:¬ (k:Int)<(j:Int):=by omega
     have hke:k=j:=(by omega);subst hke
     repeat' with_reducible (first|refine ZR.h ?_|refine kI ?_|(refine kR hE ?_;intro K hK;simp[hkI];(repeat' (first|refine hK _ _ ?_|apply And.intro|(intro hc;try subst hc)))<;>(try clear hK K))|(refine kT (fun hc=>?_) (fun hc=>?_)<;>simp at hc<;>(try subst hc)))
     all_goals first|(show Zb _ _=true;kernel_rfl)|(simp;done)|(simp at *;omega)|((try simp[hT,hC]);refine Imp.aut ?_ ?_<;>simp[NLe,hT,hC])
  ·cases h
 ·cases h
theorem vS {b:Nat} (h:b≤32):(1:Int)≤2 ^ b∧(2:Int) ^ b≤4294967296:=by
 have h1:1≤2 ^ b:=Nat.one_le_two_pow;have h2:2 ^ b≤2 ^ 32:=Nat.pow_le_pow_right (by omega) h;have e:((2 ^ b:Nat):Int)=(2:Int) ^ b:=by simp
 rw[← e];omega
def d114:List AV→List NObj→Option AV
 | [.agg [.sl (.top 0) 0 n],.int .i64 i],[.view 0 1 els]=>if n=els.length∧els.all Ut=true∧els.length≤8∧0≤i∧i<els.length then some (.int .u64 (2 ^ (ZM (els.getD i.toNat [])).toNat - 1)) else none
 | _,_=>none
theorem ok114:ROk d114:=by
 intro xs os r h;unfold d114 at h
 (repeat' (split at h))<;>first|(cases h;done)|(injection h with h;subst h;simp)
theorem s114:Sound Tryz.prog 114 (rdS d114 ok114):=by
 refine Zo (ac:=?ac) (res:=?res) Tryz.func114 (by kernel_rfl) (ha:=?ha) (hk:=?hk) (hok:=ok114) fun xs os r h vs ρ0 hvs=>?w
 case ha=>conv=>lhs;cbv
 case hk=>kernel_rfl
 refine ⟨xs,?_,fun _ h=>h,fun w0 S hS=>?_⟩
 ·unfold d114 at h
  (repeat' (split at h))<;>first|(cases h;done)|exact Nat.le_of_ble_eq_true rfl
 unfold d114 at h;split at h
 ·split at h
  ·rename_i n i els hcond
   injection h with h;subst h;have hE:Zd Tryz.prog (EL []):=Ze (by simp);obtain ⟨rfl,hw,hlen,hi0,hil⟩:=hcond;obtain ⟨j,rfl⟩:∃ j:Nat,i=(j:Int):=⟨i.toNat,by omega⟩;have hj:j<els.length:=(by omega);have hj0:¬ (j:Int)<0:=(by omega);have hjl:¬ (els.length:Int)≤(j:Int):=(by omega);have hjn:¬ els.length≤j:=(by omega);have hdat:=Zbv hw;have hT:=vW hw;have hC:=vD hw;obtain ⟨w,hrow,hw1,hw2⟩:=Xo (List.all_eq_true.1 hw _ (List.getElem_mem hj));obtain ⟨b,rfl⟩:∃ b:Nat,w=(b:Int):=⟨w.toNat,by omega⟩;have hrow2:els[j]?=some [.int .i64 (b:Int)]:=(by rw[List.getElem?_eq_getElem hj,hrow]);have hcell:ZM (els.getD j [])=(b:Int):=(by rw[List.getD_eq_getElem?_getD,hrow2];rfl);obtain ⟨hp1,hp2⟩:=vS (b:=b) (by omega);simp only[Int.toNat_natCast,hcell];have hb0:¬ (b:Int)<0:=(by omega);have hs:ZiP .u64 1 (b:Int)=2 ^ b:=by
    have:=ZdU (a:=1) (n:=b) (by omega) (by omega) (by omega);rw[Int.one_mul]at this;exact this
   have hwr:IntKind.wrap .u64 (2 ^ b - 1)=2 ^ b - 1:=YK (by omega) (by omega)
   repeat' with_reducible (first|refine ZR.h ?_|refine kI ?_|(refine kR hE ?_;intro K hK;simp[hj,hil,hj0,hjl,hjn,hrow,hrow2,hs,hwr,hb0];(repeat' (first|refine hK _ _ ?_|apply And.intro|(intro hc;try subst hc)))<;>(try clear hK K))|(refine kT (fun hc=>?_) (fun hc=>?_)<;>simp at hc<;>(try subst hc)))
   all_goals first|(show Zb _ _=true;kernel_rfl)|(simp;done)|(simp at *;omega)|((try simp[hT,hC]);refine Imp.aut ?_ ?_<;>simp[NLe,hT,hC])
  ·cases h
 ·cases h
def d93:List AV→List NObj→Option AV
 | [.agg [.sl (.top 0) 0 n],.int .u64 x,.int .i64 i],[.view 0 1 els]=>if n=els.length∧els.all Ut=true∧els.length≤8∧0≤i∧i<els.length∧0≤x∧x<18446744073709551616∧YV els i.toNat≤64 then some (.int .i64 (TU x (YV els i.toNat).toNat (ZM (els.getD i.toNat [])).toNat)) else none
 | _,_=>none
theorem ok93:ROk d93:=by
 intro xs os r h;unfold d93 at h
 (repeat' (split at h))<;>first|(cases h;done)|(injection h with h;subst h;simp)
theorem s93:Sound Tryz.prog 93 (rdS d93 ok93):=by
 refine Zo (ac:=?ac) (res:=?res) Tryz.func93 (by kernel_rfl) (ha:=?ha) (hk:=?hk) (hok:=ok93) fun xs os r h vs ρ0 hvs=>?w
 case ha=>conv=>lhs;cbv
 case hk=>kernel_rfl
 refine ⟨xs,?_,fun _ h=>h,fun w0 S hS=>?_⟩
 ·unfold d93 at h
  (repeat' (split at h))<;>first|(cases h;done)|exact Nat.le_of_ble_eq_true rfl
 unfold d93 at h;split at h
 ·split at h
  ·rename_i n x i els hcond
   injection h with h;subst h;have hE:Zd Tryz.prog (EL [(113,rdS d113 ok113),(114,rdS d114 ok114)]):=Ze (by simp only[List.mem_cons,List.not_mem_nil,or_false,forall_eq_or_imp,forall_eq];exact ⟨s113,s114⟩);obtain ⟨rfl,hw,hlen,hi0,hil,hx0,hx1,hlow⟩:=hcond;obtain ⟨j,rfl⟩:∃ j:Nat,i=(j:Int):=⟨i.toNat,by omega⟩;have hj:j<els.length:=(by omega);have hj0:¬ (j:Int)<0:=(by omega);have hjl:¬ (els.length:Int)≤(j:Int):=(by omega);have hjn:¬ els.length≤j:=(by omega);have hdat:=Zbv hw;have hT:=vW hw;have hC:=vD hw;obtain ⟨w,hrow,hw1,hw2⟩:=Xo (List.all_eq_true.1 hw _ (List.getElem_mem hj));obtain ⟨b,rfl⟩:∃ b:Nat,w=(b:Int):=⟨w.toNat,by omega⟩;have hrow2:els[j]?=some [.int .i64 (b:Int)]:=(by rw[List.getElem?_eq_getElem hj,hrow]);have hcell:ZM (els.getD j [])=(b:Int):=(by rw[List.getD_eq_getElem?_getD,hrow2];rfl);obtain ⟨hp1,hp2⟩:=vS (b:=b) (by omega);simp only[Int.toNat_natCast,hcell]at hlow⊢;have hlb:=Ta hw j (by omega);obtain ⟨lo,hlo⟩:∃ lo:Nat,YV els j=(lo:Int):=⟨(YV els j).toNat,by omega⟩;rw[hlo]at hlow⊢;simp only[Int.toNat_natCast];have hlo2:lo≤64:=(by omega);have hl0:¬ (lo:Int)<0:=(by omega);have hsh:=Zi4 (a:=x) (n:=lo) hlo2;have hq0:0≤x / 2 ^ lo:=Int.ediv_nonneg hx0 (Int.le_of_lt (Int.pow_pos (by omega)));have hq1:x / 2 ^ lo≤x:=Int.ediv_le_self _ hx0;have ham:=ZfR (a:=x / 2 ^ lo) hq0 (by omega) (n:=b) (by omega);have hg:=XM x lo b;have hwr:IntKind.wrap .i64 (x / 2 ^ lo % 2 ^ b)=TU x lo b:=by
    unfold TU at hg⊢;exact Zg (by omega) (by omega)
   have hjle:(j:Int)≤(els.length:Int):=(by omega);have hjle2:j≤els.length:=by omega
   repeat' with_reducible (first|refine ZR.h ?_|refine kI ?_|((first|refine kR hE ?_|refine kD hE Zq ?_);intro K hK;simp[hj,hil,hj0,hjl,hjn,hjle,hjle2,hrow,hrow2,hdat,hw,hlen,hlo,hcell,ZM,hl0,hsh,ham,hwr,d113,d114];(repeat' (first|refine hK _ _ ?_|apply And.intro|(intro hc;try subst hc)))<;>(try clear hK K))|(refine kT (fun hc=>?_) (fun hc=>?_)<;>simp at hc<;>(try subst hc)))
   all_goals first|(show Zb _ _=true;kernel_rfl)|(simp;done)|(simp at *;omega)|((try simp[hT,hC]);refine Imp.aut ?_ ?_<;>simp[NLe,hT,hC])
  ·cases h
 ·cases h
theorem xi {els:List (List AV)} (h:els.all Ut=true) {i k:Nat} (hik:i≤k) (hk:k≤els.length):YV els i≤YV els k:=by
 induction k with
 | zero=>rw[show i=0 from by omega];exact Int.le_refl _
 | succ k ih =>
  by_cases e:i=k+1
  ·subst e;exact Int.le_refl _
  ·have h1:=ih (by omega) (by omega)
   obtain ⟨w,hw,h2,_⟩:=Xo (List.all_eq_true.1 h _ (List.getElem_mem (show k<els.length by omega)));rw[XF (by rw[List.getElem?_eq_getElem (show k<els.length by omega),hw])];omega
def d112:List AV→Option Ans
 | [.os _ 1 els]=>if els.all Ut=true∧els.length≤8∧YV els els.length≤64 then some ⟨.tup [.agg [.os 0 1 els],.raw .nilIface],[.free]⟩ else none
 | _=>none
def I83 (els:List (List AV)) (k:Nat):St:=⟨[(0,.sl (.top 0) 0 els.length),(2,.ptr (.top 1) 0 0),(4,.int .i64 (YV els k)),(7,.sl (.top 0) 0 els.length),(8,.int .i64 els.length),(9,.int .i64 k)],[(0,.view 0 1 els),(1,.cells 0 [.nsl])],2⟩
theorem ok112:NOk [(1,false)] d112:=by
 intro xs a h;unfold d112 at h
 (repeat' (split at h))<;>first|(cases h;done)|(rename_i hc;have h1:=vW hc.1;have h2:=vD hc.1;injection h with h;subst h;refine ⟨Zp ?_,?_⟩<;>simp[h1,h2])
theorem s112:Sound Tryz.prog 112 (Zm [(1,false)] d112 ok112):=by
 refine Zi (ac:=?ac) (res:=?res) Tryz.func112 (by kernel_rfl) (ha:=?ha) (hk:=?hk) (hok:=ok112) (fun xs a h=>?_) fun xs a h w0 S hS=>?_
 case ha=>conv=>lhs;cbv
 case hk=>kernel_rfl
 ·unfold d112 at h
  (repeat' (split at h))<;>first|(cases h;done)|exact Nat.le_of_ble_eq_true rfl
 unfold d112 at h;split at h
 ·split at h
  ·rename_i tg els hcond
   injection h with h;subst h;have hE:Zd Tryz.prog (EL [(69,rdS d69 ok69)]):=Ze (by simp only[List.mem_cons,List.not_mem_nil,or_false,forall_eq_or_imp,forall_eq];exact s69);obtain ⟨hw,hlen,hlow⟩:=hcond;have hT:=vW hw;have hC:=vD hw;have hdat:=Zbv hw;have hP:(els.all fun c=>c.all AV.plain)=true:=List.all_eq_true.2 fun c hc=>by
    obtain ⟨w,rfl,_⟩:=Xo (List.all_eq_true.1 hw c hc);rfl
   repeat' with_reducible (first|refine ZR.h ?_|refine kI ?_|(refine kR hE ?_;intro K hK;simp[d69];(repeat' (first|refine hK _ _ ?_|apply And.intro|(intro hc;try subst hc)))<;>(try clear hK K))|(refine kT (fun hc=>?_) (fun hc=>?_)<;>simp at hc<;>(try subst hc)))
   all_goals (refine kL (I83 els) (fun k=>k≤els.length) (fun k=>els.length - k) 0 (Nat.zero_le _) ?_ ?_)
   ·simp only[I83]
    rw[hS];refine Imp.aut ?_ ?_<;>simp[NLe,hT,hC,YV]
   ·intro k hk
    replace hk:k≤els.length:=hk;simp only[I83];by_cases hkn:k<els.length
    ·obtain ⟨w,hrow,hw1,hw2⟩:=Xo (List.all_eq_true.1 hw _ (List.getElem_mem hkn))
     have hrow2:els[k]?=some [.int .i64 w]:=(by rw[List.getElem?_eq_getElem hkn,hrow]);have hsucc:=XF hrow2;have hb:=Ta hw k (by omega);have hle:=xi hw (show k+1≤els.length by omega) (Nat.le_refl _);have hkI:(k:Int)<(els.length:Int):=(by omega);have w1:IntKind.wrap .i64 ((k:Int)+1)=(k:Int)+1:=Zg (by omega) (by omega);have w2:IntKind.wrap .i64 (YV els k+w)=YV els k+w:=Zg (by omega) (by omega);have n1:¬ w<1:=(by omega);have n2:¬ 32<w:=(by omega);have n3:¬ 64<YV els k+w:=by omega
     repeat' with_reducible (first|refine ZR.h ?_|refine kI ?_|(refine kR hE ?_;intro K hK;simp[hkn,hkI,hrow,hrow2,w1,w2,n1,n2,n3,d69];(repeat' (first|refine hK _ _ ?_|apply And.intro|(intro hc;try subst hc)))<;>(try clear hK K))|(refine kT (fun hc=>?_) (fun hc=>?_)<;>simp at hc<;>(try subst hc)))
     all_goals refine ⟨k+1,hkn,Nat.sub_lt_sub_left hkn (Nat.lt_succ_self k),?_⟩
     all_goals simp only[I83]
     all_goals rw[hS]
     all_goals (refine Imp.aut ?_ ?_<;>simp[NLe,hT,hC,hsucc])
    ·have hkI:¬ (k:Int)<(els.length:Int):=by omega
     have hb1:els.length*8≤140737488355328:=(by omega);have hb2:els.length≤9223372036854775807:=by omega
     repeat' with_reducible (first|refine ZR.h ?_|refine kI ?_|(refine kR hE ?_;intro K hK;simp[hkI,hP,hb1,hb2,d69];(repeat' (first|refine hK _ _ ?_|apply And.intro|(intro hc;try subst hc)))<;>(try clear hK K))|(refine kT (fun hc=>?_) (fun hc=>?_)<;>simp at hc<;>(try subst hc)))
     all_goals first|(show Zb _ _=true;kernel_rfl)|(simp;done)|(simp at *;omega)|((try simp[hT,hC]);refine Imp.aut ?_ ?_<;>simp[NLe,hT,hC])
  ·cases h
 ·cases h
def d92:List AV→Option Ans
 | []=>some ⟨.agg [.os 0 1 [[.int .i64 4],[.int .i64 1],[.int .i64 8],[.int .i64 16],[.int .i64 8]]],[]⟩
 | _=>none
theorem ok92:NOk [] d92:=by
 intro xs a h;unfold d92 at h
 (repeat' (split at h))<;>first|(cases h;done)|(injection h with h;subst h;refine ⟨Zp ?_,?_⟩<;>simp)
theorem s92:Sound Tryz.prog 92 (Zm [] d92 ok92):=by
 refine Zi (ac:=?ac) (res:=?res) Tryz.func92 (by kernel_rfl) (ha:=?ha) (hk:=?hk) (hok:=ok92) (fun xs a h=>?_) fun xs a h w0 S hS=>?_
 case ha=>conv=>lhs;cbv
 case hk=>kernel_rfl
 ·unfold d92 at h
  (repeat' (split at h))<;>first|(cases h;done)|exact Nat.le_of_ble_eq_true rfl
 unfold d92 at h;split at h
 ·skip
  injection h with h;subst h;have hE:Zd Tryz.prog (EL [(112,Zm [(1,false)] d112 ok112)]):=Ze (by simp only[List.mem_cons,List.not_mem_nil,or_false,forall_eq_or_imp,forall_eq];exact s112)
  repeat' with_reducible (first|refine ZR.h ?_|refine kI ?_|(refine kR hE ?_;intro K hK;simp[Ut,YV,ZM,d112];(repeat' (first|refine hK _ _ ?_|apply And.intro|(intro hc;try subst hc)))<;>(try clear hK K))|(refine kT (fun hc=>?_) (fun hc=>?_)<;>simp at hc<;>(try subst hc)))
  all_goals first|(show Zb _ _=true;kernel_rfl)|(simp;done)|(simp at *;omega)|((try simp);refine Imp.aut ?_ ?_<;>simp[NLe])
 ·cases h
def d94:List AV→Option Ans
 | []=>some ⟨.agg [.os 0 1 [[.int .i64 4],[.int .i64 1],[.int .i64 16],[.int .i64 16],[.int .i64 24]]],[]⟩
 | _=>none
theorem ok94:NOk [] d94:=by
 intro xs a h;unfold d94 at h
 (repeat' (split at h))<;>first|(cases h;done)|(injection h with h;subst h;refine ⟨Zp ?_,?_⟩<;>simp)
theorem s94:Sound Tryz.prog 94 (Zm [] d94 ok94):=by
 refine Zi (ac:=?ac) (res:=?res) Tryz.func94 (by kernel_rfl) (ha:=?ha) (hk:=?hk) (hok:=ok94) (fun xs a h=>?_) fun xs a h w0 S hS=>?_
 case ha=>conv=>lhs;cbv
 case hk=>kernel_rfl
 ·unfold d94 at h
  (repeat' (split at h))<;>first|(cases h;done)|exact Nat.le_of_ble_eq_true rfl
 unfold d94 at h;split at h
 ·skip
  injection h with h;subst h;have hE:Zd Tryz.prog (EL [(112,Zm [(1,false)] d112 ok112)]):=Ze (by simp only[List.mem_cons,List.not_mem_nil,or_false,forall_eq_or_imp,forall_eq];exact s112)
  repeat' with_reducible (first|refine ZR.h ?_|refine kI ?_|(refine kR hE ?_;intro K hK;simp[Ut,YV,ZM,d112];(repeat' (first|refine hK _ _ ?_|apply And.intro|(intro hc;try subst hc)))<;>(try clear hK K))|(refine kT (fun hc=>?_) (fun hc=>?_)<;>simp at hc<;>(try subst hc)))
  all_goals first|(show Zb _ _=true;kernel_rfl)|(simp;done)|(simp at *;omega)|((try simp);refine Imp.aut ?_ ?_<;>simp[NLe])
 ·cases h
def d95:List AV→Option Ans
 | []=>some ⟨.agg [.os 0 1 [[.int .i64 3],[.int .i64 16],[.int .i64 16],[.int .i64 20],[.int .i64 5],[.int .i64 4]]],[]⟩
 | _=>none
theorem ok95:NOk [] d95:=by
 intro xs a h;unfold d95 at h
 (repeat' (split at h))<;>first|(cases h;done)|(injection h with h;subst h;refine ⟨Zp ?_,?_⟩<;>simp)
theorem s95:Sound Tryz.prog 95 (Zm [] d95 ok95):=by
 refine Zi (ac:=?ac) (res:=?res) Tryz.func95 (by kernel_rfl) (ha:=?ha) (hk:=?hk) (hok:=ok95) (fun xs a h=>?_) fun xs a h w0 S hS=>?_
 case ha=>conv=>lhs;cbv
 case hk=>kernel_rfl
 ·unfold d95 at h
  (repeat' (split at h))<;>first|(cases h;done)|exact Nat.le_of_ble_eq_true rfl
 unfold d95 at h;split at h
 ·skip
  injection h with h;subst h;have hE:Zd Tryz.prog (EL [(112,Zm [(1,false)] d112 ok112)]):=Ze (by simp only[List.mem_cons,List.not_mem_nil,or_false,forall_eq_or_imp,forall_eq];exact s112)
  repeat' with_reducible (first|refine ZR.h ?_|refine kI ?_|(refine kR hE ?_;intro K hK;simp[Ut,YV,ZM,d112];(repeat' (first|refine hK _ _ ?_|apply And.intro|(intro hc;try subst hc)))<;>(try clear hK K))|(refine kT (fun hc=>?_) (fun hc=>?_)<;>simp at hc<;>(try subst hc)))
  all_goals first|(show Zb _ _=true;kernel_rfl)|(simp;done)|(simp at *;omega)|((try simp);refine Imp.aut ?_ ?_<;>simp[NLe])
 ·cases h
def Zc (x:Int):StZ:=⟨TU x 0 4,decide (TU x 4 1=1),TU x 5 8,TU x 13 16,TU x 29 8⟩
structure TmZ where
 nm:Int
 sd:Int
 pr:Int
 le:Int
 un:Int
 deriving DecidableEq,Inhabited
def tmC (t:TmZ):List AV:=[.int .i64 t.nm,.int .i64 t.sd,.int .i64 t.pr,.int .i64 t.le,.int .i64 t.un]
def tmA (t:TmZ):AV:=.agg (tmC t)
structure RcZ where
 k:Int
 q:Int
 p:Int
 t:Int
 c:Int
 g:Int
 deriving DecidableEq,Inhabited
def rcA (r:RcZ):AV:=.agg [.int .i64 r.k,.int .i64 r.q,.int .i64 r.p,.int .i64 r.t,.int .i64 r.c,.int .i64 r.g]
def Yc (x:Int):TmZ:=⟨TU x 0 4,TU x 4 1,TU x 5 16,TU x 21 16,TU x 37 24⟩
def Vn (x:Int):RcZ:=⟨TU x 0 3,TU x 3 16,TU x 19 16,TU x 35 20,TU x 55 5,TU x 60 4⟩
def d58:List AV→List NObj→Option AV
 | [.int .u64 x],[]=>if 0≤x∧x<18446744073709551616 then some (stA (Zc x)) else none
 | _,_=>none
theorem ok58:ROk d58:=by
 intro xs os r h;unfold d58 at h
 (repeat' (split at h))<;>first|(cases h;done)|(injection h with h;subst h;simp[stA,Zc])
theorem s58:Sound Tryz.prog 58 (rdS d58 ok58):=by
 refine Zo (ac:=?ac) (res:=?res) Tryz.func58 (by kernel_rfl) (ha:=?ha) (hk:=?hk) (hok:=ok58) fun xs os r h vs ρ0 hvs=>?w
 case ha=>conv=>lhs;cbv
 case hk=>kernel_rfl
 refine ⟨xs,?_,fun _ h=>h,fun w0 S hS=>?_⟩
 ·unfold d58 at h
  (repeat' (split at h))<;>first|(cases h;done)|exact Nat.le_of_ble_eq_true rfl
 unfold d58 at h;split at h
 ·split at h
  ·rename_i x hcond
   injection h with h;subst h;have hE:Zd Tryz.prog (EL [(92,Zm [] d92 ok92),(93,rdS d93 ok93)]):=Ze (by simp only[List.mem_cons,List.not_mem_nil,or_false,forall_eq_or_imp,forall_eq];exact ⟨s92,s93⟩);obtain ⟨hx0,hx1⟩:=hcond
   repeat' with_reducible (first|refine ZR.h ?_|refine kI ?_|((first|refine kR hE ?_|refine kD hE Zq ?_);intro K hK;simp[hx0,hx1,Ut,YV,ZM,d92,d93];(repeat' (first|refine hK _ _ ?_|apply And.intro|(intro hc;try subst hc)))<;>(try clear hK K))|(refine kT (fun hc=>?_) (fun hc=>?_)<;>simp at hc<;>(try subst hc)))
   all_goals first|(show Zb _ _=true;kernel_rfl)|(simp;done)|(simp at *;omega)|((try simp[stA,Zc]);refine Imp.aut ?_ ?_<;>simp[NLe,stA,Zc])
  ·cases h
 ·cases h
def d59:List AV→List NObj→Option AV
 | [.int .u64 x],[]=>if 0≤x∧x<18446744073709551616 then some (tmA (Yc x)) else none
 | _,_=>none
theorem ok59:ROk d59:=by
 intro xs os r h;unfold d59 at h
 (repeat' (split at h))<;>first|(cases h;done)|(injection h with h;subst h;simp[tmA,tmC,Yc])
theorem s59:Sound Tryz.prog 59 (rdS d59 ok59):=by
 refine Zo (ac:=?ac) (res:=?res) Tryz.func59 (by kernel_rfl) (ha:=?ha) (hk:=?hk) (hok:=ok59) fun xs os r h vs ρ0 hvs=>?w
 case ha=>conv=>lhs;cbv
 case hk=>kernel_rfl
 refine ⟨xs,?_,fun _ h=>h,fun w0 S hS=>?_⟩
 ·unfold d59 at h
  (repeat' (split at h))<;>first|(cases h;done)|exact Nat.le_of_ble_eq_true rfl
 unfold d59 at h;split at h
 ·split at h
  ·rename_i x hcond
   injection h with h;subst h;have hE:Zd Tryz.prog (EL [(94,Zm [] d94 ok94),(93,rdS d93 ok93)]):=Ze (by simp only[List.mem_cons,List.not_mem_nil,or_false,forall_eq_or_imp,forall_eq];exact ⟨s94,s93⟩);obtain ⟨hx0,hx1⟩:=hcond
   repeat' with_reducible (first|refine ZR.h ?_|refine kI ?_|((first|refine kR hE ?_|refine kD hE Zq ?_);intro K hK;simp[hx0,hx1,Ut,YV,ZM,d94,d93];(repeat' (first|refine hK _ _ ?_|apply And.intro|(intro hc;try subst hc)))<;>(try clear hK K))|(refine kT (fun hc=>?_) (fun hc=>?_)<;>simp at hc<;>(try subst hc)))
   all_goals first|(show Zb _ _=true;kernel_rfl)|(simp;done)|(simp at *;omega)|((try simp[tmA,tmC,Yc]);refine Imp.aut ?_ ?_<;>simp[NLe,tmA,tmC,Yc])
  ·cases h
 ·cases h
def d60:List AV→List NObj→Option AV
 | [.int .u64 x],[]=>if 0≤x∧x<18446744073709551616 then some (rcA (Vn x)) else none
 | _,_=>none
theorem ok60:ROk d60:=by
 intro xs os r h;unfold d60 at h
 (repeat' (split at h))<;>first|(cases h;done)|(injection h with h;subst h;simp[rcA,Vn])
theorem s60:Sound Tryz.prog 60 (rdS d60 ok60):=by
 refine Zo (ac:=?ac) (res:=?res) Tryz.func60 (by kernel_rfl) (ha:=?ha) (hk:=?hk) (hok:=ok60) fun xs os r h vs ρ0 hvs=>?w
 case ha=>conv=>lhs;cbv
 case hk=>kernel_rfl
 refine ⟨xs,?_,fun _ h=>h,fun w0 S hS=>?_⟩
 ·unfold d60 at h
  (repeat' (split at h))<;>first|(cases h;done)|exact Nat.le_of_ble_eq_true rfl
 unfold d60 at h;split at h
 ·split at h
  ·rename_i x hcond
   injection h with h;subst h;have hE:Zd Tryz.prog (EL [(95,Zm [] d95 ok95),(93,rdS d93 ok93)]):=Ze (by simp only[List.mem_cons,List.not_mem_nil,or_false,forall_eq_or_imp,forall_eq];exact ⟨s95,s93⟩);obtain ⟨hx0,hx1⟩:=hcond
   repeat' with_reducible (first|refine ZR.h ?_|refine kI ?_|((first|refine kR hE ?_|refine kD hE Zq ?_);intro K hK;simp[hx0,hx1,Ut,YV,ZM,d95,d93];(repeat' (first|refine hK _ _ ?_|apply And.intro|(intro hc;try subst hc)))<;>(try clear hK K))|(refine kT (fun hc=>?_) (fun hc=>?_)<;>simp at hc<;>(try subst hc)))
   all_goals first|(show Zb _ _=true;kernel_rfl)|(simp;done)|(simp at *;omega)|((try simp[rcA,Vn]);refine Imp.aut ?_ ?_<;>simp[NLe,rcA,Vn])
  ·cases h
 ·cases h
end Go.W
