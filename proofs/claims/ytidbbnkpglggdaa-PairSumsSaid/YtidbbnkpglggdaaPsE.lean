/- A part of the proofs about the pair's laws (PsC, PsD, PsE). -/
import Derived.Test.YtidbbnkpglggdaaPsB
namespace Go.W
open Go.Proofs
set_option linter.unusedSimpArgs false
set_option linter.unusedVariables false
set_option maxHeartbeats 8000000
attribute [local irreducible] Wm
attribute [local simp] nmap lkp mkPl prs prsL prT ddL idL CRenL CRen Ren RenL NObj.none CRenLL
def isW:List AV→Bool
 | [.int .u64 x]=>decide (0≤x)&&decide (x<18446744073709551616)
 | _=>false
def wAt (ws:List (List AV)) (i:Nat):Int:=match ws[i]? with
 | some [.int .u64 x]=>x
 | _=>0
theorem isW_ex {c:List AV} (h:isW c=true):∃ x:Int,c=[.int .u64 x]∧0≤x∧x<18446744073709551616:=by
 unfold isW at h
 split at h
 ·simp only[Bool.and_eq_true,decide_eq_true_eq]at h;exact ⟨_,rfl,h⟩
 ·cases h
theorem w_t0:∀ {els:List (List AV)},els.all isW=true→t0LL els=els
 | [],_=>rfl
 | c :: r,h=>by
  simp only[List.all_cons,Bool.and_eq_true]at h
  obtain ⟨x,rfl,_⟩:=isW_ex h.1
  simp[t0LL,t0L,AV.t0,w_t0 h.2]
theorem w_cl:∀ {els:List (List AV)},els.all isW=true→clLL els=true
 | [],_=>rfl
 | c :: r,h=>by
  simp only[List.all_cons,Bool.and_eq_true]at h
  obtain ⟨x,rfl,_⟩:=isW_ex h.1
  simp[clLL,clL,AV.cl,w_cl h.2]
theorem w_at {els:List (List AV)} (h:els.all isW=true) {i:Nat} (hi:i<els.length):els[i]?=some [.int .u64 (wAt els i)]∧0≤wAt els i∧wAt els i<18446744073709551616:=by
 obtain ⟨x,hx,h1⟩:=isW_ex (List.all_eq_true.1 h _ (List.getElem_mem hi))
 have e:els[i]?=some [.int .u64 x]:=by rw[List.getElem?_eq_getElem hi,hx]
 have e2:wAt els i=x:=by unfold wAt;rw[e]
 rw[e2];exact ⟨e,h1⟩
theorem w_set {els:List (List AV)} (h:els.all isW=true) {x:Int} (h1:0≤x) (h2:x<18446744073709551616) (i:Nat):(els.set i [.int .u64 x]).all isW=true :=
 List.all_eq_true.2 fun c hc=>by
  rcases List.mem_or_eq_of_mem_set hc with h3|h3
  ·exact List.all_eq_true.1 h c h3
  ·rw[h3];simp[isW,h1,h2]
def d71:List AV→List NObj→Option AV
 | [.int .i64 _,.iface _ _],[]=>some (.iface 165 .bot)
 | _,_=>none
theorem ok71:ROk d71:=by
 intro xs os r h
 unfold d71 at h
 (repeat' (split at h))<;>first|(cases h;done)|(injection h with h;subst h;simp)
theorem s71:Sound Try.prog 71 (rdS d71 ok71):=by
 refine rd_sound Try.func71 nm71 rc71 rv71 ok71 fun xs os r h vs ρ0 hvs=>⟨xs,?_,fun _ h=>h,fun w0 S hS=>?_⟩
 ·unfold d71 at h
  (repeat' (split at h))<;>first|(cases h;done)|exact Nat.le_of_ble_eq_true rfl
 unfold d71 at h
 split at h
 ·skip
  injection h with h
  subst h
  have hE:SoundAll Try.prog (EL []):=EL_sound (by simp)
  unfold m71
  repeat' with_reducible (first
   | refine ZR.h ?_ | refine zI (by decide) ?_
   | (refine zK hE ?_;intro K hK;simp[KR.ks,q71_0,q71_1,q71_2,q71_3];(repeat' (first | refine hK _ _ ?_ | refine And.intro ?_ ?_ | (intro hc;try subst hc)))<;>(try clear hK K))
   | (refine zJ (b:=_) (by with_unfolding_all rfl) (fun hc=>?_) (fun hc=>?_)<;>simp at hc<;>(try subst hc)))
  all_goals first|(simp;done)|(simp at *;omega)|((try simp);refine Imp.auto (by kernel_rfl) ?_ ?_<;>simp[NLe])
 ·cases h
def d57:List AV→Option Ans
 | [.op _ [.os _ 1 ws,.int .i64 s,.bot,.bot,.bot,.bot,.bot],.int .i64 i]=>some ⟨if i<0 then .iface 165 .bot else if (ws.length:Int)≤i then .iface 165 .bot else .raw .nilIface,[.free]⟩
 | _=>none
theorem ok57:NOk [(7,false)] d57:=by
 intro xs a h
 unfold d57 at h
 split at h
 ·injection h with h;subst h
  refine ⟨Ends_of ?_,?_⟩<;>(repeat' split)<;>simp
 ·cases h
theorem s57:Sound Try.prog 57 (nestS [(7,false)] d57 ok57):=by
 refine nest_sound Try.func57 nm57 rc57 rv57 ok57 (fun xs a h=>?_) fun xs a h w0 S hS=>?_
 ·unfold d57 at h
  (repeat' (split at h))<;>first|(cases h;done)|exact Nat.le_of_ble_eq_true rfl
 unfold d57 at h
 split at h
 ·rename_i t1 t2 ws s i
  injection h with h
  subst h
  have hE:SoundAll Try.prog (EL [(71,rdS d71 ok71)]):=EL_sound (by simp only[List.mem_cons,List.not_mem_nil,or_false,forall_eq_or_imp,forall_eq];exact s71)
  by_cases h1:i<0
  ·unfold m57
   repeat' with_reducible (first
    | refine ZR.h ?_ | refine zI (by decide) ?_
    | (refine zK hE ?_;intro K hK;simp[KR.ks,q57_0,q57_1,q57_2,q57_3,q57_4,q57_5,h1,d71];(repeat' (first | refine hK _ _ ?_ | refine And.intro ?_ ?_ | (intro hc;try subst hc)))<;>(try clear hK K))
    | (refine zJ (b:=_) (by with_unfolding_all rfl) (fun hc=>?_) (fun hc=>?_)<;>simp at hc<;>(try subst hc)))
   all_goals first|(simp;done)|(simp at *;omega)|((try simp[h1]);refine Imp.auto (by kernel_rfl) ?_ ?_<;>simp[NLe,h1])
  ·by_cases h2:(ws.length:Int)≤i
   ·unfold m57
    repeat' with_reducible (first
     | refine ZR.h ?_ | refine zI (by decide) ?_
     | (refine zK hE ?_;intro K hK;simp[KR.ks,q57_0,q57_1,q57_2,q57_3,q57_4,q57_5,h1,h2,d71];(repeat' (first | refine hK _ _ ?_ | refine And.intro ?_ ?_ | (intro hc;try subst hc)))<;>(try clear hK K))
     | (refine zJ (b:=_) (by with_unfolding_all rfl) (fun hc=>?_) (fun hc=>?_)<;>simp at hc<;>(try subst hc)))
    all_goals first|(simp;done)|(simp at *;omega)|((try simp[h1,h2]);refine Imp.auto (by kernel_rfl) ?_ ?_<;>simp[NLe,h1,h2])
   ·unfold m57
    repeat' with_reducible (first
     | refine ZR.h ?_ | refine zI (by decide) ?_
     | (refine zK hE ?_;intro K hK;simp[KR.ks,q57_0,q57_1,q57_2,q57_3,q57_4,q57_5,h1,h2,d71];(repeat' (first | refine hK _ _ ?_ | refine And.intro ?_ ?_ | (intro hc;try subst hc)))<;>(try clear hK K))
     | (refine zJ (b:=_) (by with_unfolding_all rfl) (fun hc=>?_) (fun hc=>?_)<;>simp at hc<;>(try subst hc)))
    all_goals first|(simp;done)|(simp at *;omega)|((try simp[h1,h2]);refine Imp.auto (by kernel_rfl) ?_ ?_<;>simp[NLe,h1,h2])
 ·cases h
def d58:List AV→Option Ans
 | [.op _ [.os _ 1 ws,.int .i64 s,.bot,.bot,.bot,.bot,.bot],.agg [.int .i64 _,.int .i64 _,.int .u64 _,.int .u64 _,.bool _]]=>if ws.all isW=true∧0≤s∧s≤1000000000 then some ⟨.tup [],[.cells 0 [.os 0 1 ws,.int .i64 (s+1),.bot,.bot,.bot,.bot,.bot]]⟩ else none
 | _=>none
theorem ok58:NOk [(7,true)] d58:=by
 intro xs a h
 unfold d58 at h
 (repeat' (split at h))<;>first|(cases h;done)|(rename_i hc;have h1:=w_t0 hc.1;have h2:=w_cl hc.1;injection h with h;subst h;refine ⟨Ends_of ?_,?_⟩<;>simp[h1,h2])
theorem s58:Sound Try.prog 58 (nestS [(7,true)] d58 ok58):=by
 refine nest_sound Try.func58 nm58 rc58 rv58 ok58 (fun xs a h=>?_) fun xs a h w0 S hS=>?_
 ·unfold d58 at h
  (repeat' (split at h))<;>first|(cases h;done)|exact Nat.le_of_ble_eq_true rfl
 unfold d58 at h
 split at h
 ·split at h
  ·rename_i t1 t2 ws s y1 y2 y3 y4 y5 hcond
   injection h with h
   subst h
   have hE:SoundAll Try.prog (EL []):=EL_sound (by simp)
   obtain ⟨hw,hs0,hs1⟩:=hcond
   have hT:=w_t0 hw
   have hC:=w_cl hw
   have w1:IntKind.wrap .i64 (s+1)=s+1:=wrap_in (by omega) (by omega)
   unfold m58
   repeat' with_reducible (first
    | refine ZR.h ?_ | refine zI (by decide) ?_
    | (refine zK hE ?_;intro K hK;simp[KR.ks,q58_0,q58_1,q58_2,w1,hT,hC];(repeat' (first | refine hK _ _ ?_ | refine And.intro ?_ ?_ | (intro hc;try subst hc)))<;>(try clear hK K))
    | (refine zJ (b:=_) (by with_unfolding_all rfl) (fun hc=>?_) (fun hc=>?_)<;>simp at hc<;>(try subst hc)))
   all_goals first|(simp;done)|(simp at *;omega)|((try simp[hT,hC]);refine Imp.auto (by kernel_rfl) ?_ ?_<;>simp[NLe,hT,hC])
  ·cases h
 ·cases h
end Go.W

namespace Go.W
open Go.Proofs
set_option linter.unusedSimpArgs false
set_option linter.unusedVariables false
set_option maxHeartbeats 8000000
attribute [local irreducible] Wm
attribute [local simp] nmap lkp mkPl prs prsL prT ddL idL CRenL CRen Ren RenL NObj.none CRenLL
def d19:List AV→Option Ans
 | [.op _ [.os _ 1 ws,.int .i64 s,.bot,.bot,.bot,.bot,.bot],.int .i64 i]=>if ws.all isW=true∧0≤s∧s≤1000000000∧0≤i∧i<ws.length then some ⟨.tup [.int .u64 (wAt ws i.toNat),.raw .nilIface],[.cells 0 [.os 0 1 ws,.int .i64 (s+1),.bot,.bot,.bot,.bot,.bot]]⟩ else none
 | _=>none
theorem ok19:NOk [(7,true)] d19:=by
 intro xs a h
 unfold d19 at h
 (repeat' (split at h))<;>first|(cases h;done)|(rename_i hc;have h1:=w_t0 hc.1;have h2:=w_cl hc.1;injection h with h;subst h;refine ⟨Ends_of ?_,?_⟩<;>simp[h1,h2])
theorem s19:Sound Try.prog 19 (nestS [(7,true)] d19 ok19):=by
 refine nest_sound Try.func19 nm19 rc19 rv19 ok19 (fun xs a h=>?_) fun xs a h w0 S hS=>?_
 ·unfold d19 at h
  (repeat' (split at h))<;>first|(cases h;done)|exact Nat.le_of_ble_eq_true rfl
 unfold d19 at h
 split at h
 ·split at h
  ·rename_i t1 t2 ws s i hcond
   injection h with h
   subst h
   have hE:SoundAll Try.prog (EL [(57,nestS [(7,false)] d57 ok57),(58,nestS [(7,true)] d58 ok58)]):=EL_sound (by simp only[List.mem_cons,List.not_mem_nil,or_false,forall_eq_or_imp,forall_eq];exact ⟨s57,s58⟩)
   obtain ⟨hw,hs0,hs1,hi0,hil⟩:=hcond
   obtain ⟨j,rfl⟩:∃ j:Nat,i=(j:Int):=⟨i.toNat,by omega⟩
   have hj:j<ws.length:=by omega
   have hjl:¬ ws.length≤j:=by omega
   obtain ⟨hg,hx0,hx1⟩:=w_at hw hj
   have hT:=w_t0 hw
   have hC:=w_cl hw
   have hn0:¬ (j:Int)<0:=by omega
   have hnl:¬ (ws.length:Int)≤(j:Int):=by omega
   obtain ⟨x,hx⟩:∃ x,wAt ws j=x:=⟨_,rfl⟩
   rw[hx]at hg hx0 hx1
   have hgj:ws[j]=[.int .u64 x]:=by rw[List.getElem?_eq_getElem hj]at hg;simpa using hg
   unfold m19
   repeat' with_reducible (first
    | refine ZR.h ?_ | refine zI (by decide) ?_
    | (refine zK hE ?_;intro K hK;simp[KR.ks,q19_0,q19_1,q19_2,q19_3,q19_4,q19_5,q19_6,hT,hC,hw,hs0,hs1,hj,hjl,hn0,hnl,hil,hg,hgj,d57,d58];(repeat' (first | refine hK _ _ ?_ | refine And.intro ?_ ?_ | (intro hc;try subst hc)))<;>(try clear hK K))
    | (refine zJ (b:=_) (by with_unfolding_all rfl) (fun hc=>?_) (fun hc=>?_)<;>simp at hc<;>(try subst hc)))
   all_goals first|(simp;done)|(simp at *;omega)|((try simp[hT,hC,hx]);refine Imp.auto (by kernel_rfl) ?_ ?_<;>simp[NLe,hT,hC,hx])
  ·cases h
 ·cases h
def d49:List AV→Option Ans
 | [.op _ [.os _ 1 ws,.int .i64 s,.bot,.bot,.bot,.bot,.bot],.int .i64 i,.int .u64 v]=>if ws.all isW=true∧0≤s∧s≤1000000000∧0≤v∧v<18446744073709551616 then some (if i<0 then ⟨.iface 165 .bot,[.cells 0 [.os 0 1 ws,.int .i64 s,.bot,.bot,.bot,.bot,.bot]]⟩ else if (ws.length:Int)≤i then ⟨.iface 165 .bot,[.cells 0 [.os 0 1 ws,.int .i64 s,.bot,.bot,.bot,.bot,.bot]]⟩ else ⟨.raw .nilIface,[.cells 0 [.os 0 1 (ws.set i.toNat [.int .u64 v]),.int .i64 (s+1),.bot,.bot,.bot,.bot,.bot]]⟩) else none
 | _=>none
theorem ok49:NOk [(7,true)] d49:=by
 intro xs a h
 unfold d49 at h
 split at h
 ·split at h
  ·rename_i t1 t2 ws s i v hc
   have h1:=w_t0 hc.1
   have h2:=w_cl hc.1
   have hws:=w_set hc.1 hc.2.2.2.1 hc.2.2.2.2 i.toNat
   have h3:=w_t0 hws
   have h4:=w_cl hws
   injection h with h;subst h
   split
   ·refine ⟨Ends_of ?_,?_⟩<;>simp[h1,h2]
   ·split
    ·refine ⟨Ends_of ?_,?_⟩<;>simp[h1,h2]
    ·refine ⟨Ends_of ?_,?_⟩<;>simp[h1,h2,h3,h4]
  ·cases h
 ·cases h
theorem s49:Sound Try.prog 49 (nestS [(7,true)] d49 ok49):=by
 refine nest_sound Try.func49 nm49 rc49 rv49 ok49 (fun xs a h=>?_) fun xs a h w0 S hS=>?_
 ·unfold d49 at h
  (repeat' (split at h))<;>first|(cases h;done)|exact Nat.le_of_ble_eq_true rfl
 unfold d49 at h
 split at h
 ·split at h
  ·rename_i t1 t2 ws s i v hcond
   injection h with h
   subst h
   have hE:SoundAll Try.prog (EL [(57,nestS [(7,false)] d57 ok57),(58,nestS [(7,true)] d58 ok58)]):=EL_sound (by simp only[List.mem_cons,List.not_mem_nil,or_false,forall_eq_or_imp,forall_eq];exact ⟨s57,s58⟩)
   obtain ⟨hw,hs0,hs1,hv0,hv1⟩:=hcond
   have hT:=w_t0 hw
   have hC:=w_cl hw
   by_cases hi:i<0
   ·unfold m49
    repeat' with_reducible (first
     | refine ZR.h ?_ | refine zI (by decide) ?_
     | (refine zK hE ?_;intro K hK;simp[KR.ks,q49_0,q49_1,q49_2,q49_3,q49_4,q49_5,q49_6,hT,hC,hw,hi,d57,d58];(repeat' (first | refine hK _ _ ?_ | refine And.intro ?_ ?_ | (intro hc;try subst hc)))<;>(try clear hK K))
     | (refine zJ (b:=_) (by with_unfolding_all rfl) (fun hc=>?_) (fun hc=>?_)<;>simp at hc<;>(try subst hc)))
    all_goals first|(simp;done)|(simp at *;omega)|((try simp[hT,hC,hi]);refine Imp.auto (by kernel_rfl) ?_ ?_<;>simp[NLe,hT,hC,hi])
   ·by_cases hl:(ws.length:Int)≤i
    ·unfold m49
     repeat' with_reducible (first
      | refine ZR.h ?_ | refine zI (by decide) ?_
      | (refine zK hE ?_;intro K hK;simp[KR.ks,q49_0,q49_1,q49_2,q49_3,q49_4,q49_5,q49_6,hT,hC,hw,hi,hl,d57,d58];(repeat' (first | refine hK _ _ ?_ | refine And.intro ?_ ?_ | (intro hc;try subst hc)))<;>(try clear hK K))
      | (refine zJ (b:=_) (by with_unfolding_all rfl) (fun hc=>?_) (fun hc=>?_)<;>simp at hc<;>(try subst hc)))
     all_goals first|(simp;done)|(simp at *;omega)|((try simp[hT,hC,hi,hl]);refine Imp.auto (by kernel_rfl) ?_ ?_<;>simp[NLe,hT,hC,hi,hl])
    ·obtain ⟨j,rfl⟩:∃ j:Nat,i=(j:Int):=⟨i.toNat,by omega⟩
     have hj:j<ws.length:=by omega
     have hil:(j:Int)<(ws.length:Int):=by omega
     have hjl:¬ ws.length≤j:=by omega
     obtain ⟨hg,hx0,hx1⟩:=w_at hw hj
     have hws:=w_set hw hv0 hv1 j
     have hT2:=w_t0 hws
     have hC2:=w_cl hws
     obtain ⟨x,hx⟩:∃ x,wAt ws j=x:=⟨_,rfl⟩
     rw[hx]at hg
     have hgj:ws[j]=[.int .u64 x]:=by rw[List.getElem?_eq_getElem hj]at hg;simpa using hg
     unfold m49
     repeat' with_reducible (first
      | refine ZR.h ?_ | refine zI (by decide) ?_
      | (refine zK hE ?_;intro K hK;simp[KR.ks,q49_0,q49_1,q49_2,q49_3,q49_4,q49_5,q49_6,hT,hC,hw,hs0,hs1,hi,hl,hj,hjl,hil,hg,hgj,d57,d58];(repeat' (first | refine hK _ _ ?_ | refine And.intro ?_ ?_ | (intro hc;try subst hc)))<;>(try clear hK K))
      | (refine zJ (b:=_) (by with_unfolding_all rfl) (fun hc=>?_) (fun hc=>?_)<;>simp at hc<;>(try subst hc)))
     all_goals first|(simp;done)|(simp at *;omega)|((try simp[hT,hC,hT2,hC2,hi,hl,hjl]);refine Imp.auto (by kernel_rfl) ?_ ?_<;>simp[NLe,hT,hC,hT2,hC2,hi,hl,hjl])
  ·cases h
 ·cases h
def d63:List AV→Option Ans
 | [.op _ [.os _ 1 ws,.int .i64 s,.bot,.bot,.bot,.bot,.bot],.int .i64 i,.int .u64 old,.int .u64 v]=>if ws.all isW=true∧0≤s∧s≤1000000000∧0≤v∧v<18446744073709551616∧0≤i∧i<ws.length then some (if wAt ws i.toNat=old then ⟨.tup [.bool true,.raw .nilIface],[.cells 0 [.os 0 1 (ws.set i.toNat [.int .u64 v]),.int .i64 (s+1),.bot,.bot,.bot,.bot,.bot]]⟩ else ⟨.tup [.bool false,.raw .nilIface],[.cells 0 [.os 0 1 ws,.int .i64 (s+1),.bot,.bot,.bot,.bot,.bot]]⟩) else none
 | _=>none
theorem ok63:NOk [(7,true)] d63:=by
 intro xs a h
 unfold d63 at h
 split at h
 ·split at h
  ·rename_i t1 t2 ws s i old v hc
   have h1:=w_t0 hc.1
   have h2:=w_cl hc.1
   have hws:=w_set hc.1 hc.2.2.2.1 hc.2.2.2.2.1 i.toNat
   have h3:=w_t0 hws
   have h4:=w_cl hws
   injection h with h;subst h
   split
   ·refine ⟨Ends_of ?_,?_⟩<;>simp[h1,h2,h3,h4]
   ·refine ⟨Ends_of ?_,?_⟩<;>simp[h1,h2]
  ·cases h
 ·cases h
theorem s63:Sound Try.prog 63 (nestS [(7,true)] d63 ok63):=by
 refine nest_sound Try.func63 nm63 rc63 rv63 ok63 (fun xs a h=>?_) fun xs a h w0 S hS=>?_
 ·unfold d63 at h
  (repeat' (split at h))<;>first|(cases h;done)|exact Nat.le_of_ble_eq_true rfl
 unfold d63 at h
 split at h
 ·split at h
  ·rename_i t1 t2 ws s i old v hcond
   injection h with h
   subst h
   have hE:SoundAll Try.prog (EL [(57,nestS [(7,false)] d57 ok57),(58,nestS [(7,true)] d58 ok58)]):=EL_sound (by simp only[List.mem_cons,List.not_mem_nil,or_false,forall_eq_or_imp,forall_eq];exact ⟨s57,s58⟩)
   obtain ⟨hw,hs0,hs1,hv0,hv1,hi0,hil⟩:=hcond
   have hT:=w_t0 hw
   have hC:=w_cl hw
   obtain ⟨j,rfl⟩:∃ j:Nat,i=(j:Int):=⟨i.toNat,by omega⟩
   have hj:j<ws.length:=by omega
   have hjl:¬ ws.length≤j:=by omega
   have hn0:¬ (j:Int)<0:=by omega
   have hnl:¬ (ws.length:Int)≤(j:Int):=by omega
   obtain ⟨hg,hx0,hx1⟩:=w_at hw hj
   have hws:=w_set hw hv0 hv1 j
   have hT2:=w_t0 hws
   have hC2:=w_cl hws
   obtain ⟨x,hx⟩:∃ x,wAt ws j=x:=⟨_,rfl⟩
   rw[hx]at hg
   have hgj:ws[j]=[.int .u64 x]:=by rw[List.getElem?_eq_getElem hj]at hg;simpa using hg
   simp only[Int.toNat_natCast,hx]
   by_cases he:x=old
   ·subst he
    unfold m63
    repeat' with_reducible (first
     | refine ZR.h ?_ | refine zI (by decide) ?_
     | ((first | refine zK hE ?_ | refine zL hE mixT ?_);intro K hK;simp[KR.ks,KD.ks,KD.cl,q63_0,q63_1,q63_2,q63_3,q63_4,q63_5,q63_6,q63_7,q63_8,q63_9,hT,hC,hT2,hC2,hws,hw,hs0,hs1,hj,hjl,hn0,hnl,hil,hg,hgj,d57,d58];(repeat' (first | refine hK _ _ ?_ | refine And.intro ?_ ?_ | (intro hc;try subst hc)))<;>(try clear hK K))
     | (refine zJ (b:=_) (by with_unfolding_all rfl) (fun hc=>?_) (fun hc=>?_)<;>simp at hc<;>(try subst hc)))
    all_goals first|(simp;done)|(simp at *;omega)|((try simp[hT,hC,hT2,hC2]);refine Imp.auto (by kernel_rfl) ?_ ?_<;>simp[NLe,hT,hC,hT2,hC2])
   ·unfold m63
    repeat' with_reducible (first
     | refine ZR.h ?_ | refine zI (by decide) ?_
     | ((first | refine zK hE ?_ | refine zL hE mixT ?_);intro K hK;simp[KR.ks,KD.ks,KD.cl,q63_0,q63_1,q63_2,q63_3,q63_4,q63_5,q63_6,q63_7,q63_8,q63_9,hT,hC,hT2,hC2,hw,hs0,hs1,hj,hjl,hn0,hnl,hil,hg,hgj,he,d57,d58];(repeat' (first | refine hK _ _ ?_ | refine And.intro ?_ ?_ | (intro hc;try subst hc)))<;>(try clear hK K))
     | (refine zJ (b:=_) (by with_unfolding_all rfl) (fun hc=>?_) (fun hc=>?_)<;>simp at hc<;>(try subst hc)))
    all_goals first|(simp;done)|(simp at *;omega)|((try simp[hT,hC,hT2,hC2,he]);refine Imp.auto (by kernel_rfl) ?_ ?_<;>simp[NLe,hT,hC,hT2,hC2,he])
  ·cases h
 ·cases h
def d22:List AV→Option Ans
 | [.op _ [.os _ 1 ws,.int .i64 s,.bot,.bot,.bot,.bot,.bot]]=>some ⟨.int .i64 s,[.free]⟩
 | _=>none
theorem ok22:NOk [(7,false)] d22:=by
 intro xs a h
 unfold d22 at h
 (repeat' (split at h))<;>first|(cases h;done)|(injection h with h;subst h;refine ⟨Ends_of ?_,?_⟩<;>simp)
theorem s22:Sound Try.prog 22 (nestS [(7,false)] d22 ok22):=by
 refine nest_sound Try.func22 nm22 rc22 rv22 ok22 (fun xs a h=>?_) fun xs a h w0 S hS=>?_
 ·unfold d22 at h
  (repeat' (split at h))<;>first|(cases h;done)|exact Nat.le_of_ble_eq_true rfl
 unfold d22 at h
 split at h
 ·rename_i t1 t2 ws s
  injection h with h
  subst h
  have hE:SoundAll Try.prog (EL []):=EL_sound (by simp)
  unfold m22
  repeat' with_reducible (first
   | refine ZR.h ?_ | refine zI (by decide) ?_
   | (refine zK hE ?_;intro K hK;simp[KR.ks,q22_0,q22_1,q22_2,q22_3];(repeat' (first | refine hK _ _ ?_ | refine And.intro ?_ ?_ | (intro hc;try subst hc)))<;>(try clear hK K))
   | (refine zJ (b:=_) (by with_unfolding_all rfl) (fun hc=>?_) (fun hc=>?_)<;>simp at hc<;>(try subst hc)))
  all_goals first|(simp;done)|(simp at *;omega)|((try simp);refine Imp.auto (by kernel_rfl) ?_ ?_<;>simp[NLe])
 ·cases h
def d24:List AV→Option Ans
 | [.op _ [.int .u64 t]]=>if 0≤t∧t≤1000000 then some ⟨.int .i64 t,[.free]⟩ else none
 | _=>none
theorem ok24:NOk [(1,false)] d24:=by
 intro xs a h
 unfold d24 at h
 (repeat' (split at h))<;>first|(cases h;done)|(injection h with h;subst h;refine ⟨Ends_of ?_,?_⟩<;>simp)
theorem s24:Sound Try.prog 24 (nestS [(1,false)] d24 ok24):=by
 refine nest_sound Try.func24 nm24 rc24 rv24 ok24 (fun xs a h=>?_) fun xs a h w0 S hS=>?_
 ·unfold d24 at h
  (repeat' (split at h))<;>first|(cases h;done)|exact Nat.le_of_ble_eq_true rfl
 unfold d24 at h
 split at h
 ·split at h
  ·rename_i tg t hcond
   injection h with h
   subst h
   have hE:SoundAll Try.prog (EL []):=EL_sound (by simp)
   have w1:IntKind.wrap .i64 t=t:=wrap_in (by omega) (by omega)
   unfold m24
   repeat' with_reducible (first
    | refine ZR.h ?_ | refine zI (by decide) ?_
    | (refine zK hE ?_;intro K hK;simp[KR.ks,q24_0,q24_1,q24_2,q24_3,w1];(repeat' (first | refine hK _ _ ?_ | refine And.intro ?_ ?_ | (intro hc;try subst hc)))<;>(try clear hK K))
    | (refine zJ (b:=_) (by with_unfolding_all rfl) (fun hc=>?_) (fun hc=>?_)<;>simp at hc<;>(try subst hc)))
   all_goals first|(simp;done)|(simp at *;omega)|((try simp);refine Imp.auto (by kernel_rfl) ?_ ?_<;>simp[NLe])
  ·cases h
 ·cases h
theorem zero_w (n:Nat):(List.replicate n [AV.int .u64 0]).all isW=true:=by
 rw[List.all_eq_true]
 intro c hc
 rw[List.eq_of_mem_replicate hc];rfl
def d73:List AV→Option Ans
 | [.int .i64 n]=>if 0≤n∧n≤8192 then some ⟨.tup [.op 0 [.os 0 1 (List.replicate n.toNat [.int .u64 0]),.int .i64 0,.bot,.bot,.bot,.bot,.bot],.raw .nilIface],[]⟩ else none
 | _=>none
theorem ok73:NOk [] d73:=by
 intro xs a h
 unfold d73 at h
 split at h
 ·split at h
  ·rename_i n hc
   have h1:=w_t0 (zero_w n.toNat)
   have h2:=w_cl (zero_w n.toNat)
   injection h with h;subst h
   refine ⟨Ends_of ?_,?_⟩<;>simp[h1,h2]
  ·cases h
 ·cases h
theorem s73:Sound Try.prog 73 (nestS [] d73 ok73):=by
 refine nest_sound Try.func73 nm73 rc73 rv73 ok73 (fun xs a h=>?_) fun xs a h w0 S hS=>?_
 ·unfold d73 at h
  (repeat' (split at h))<;>first|(cases h;done)|exact Nat.le_of_ble_eq_true rfl
 unfold d73 at h
 split at h
 ·split at h
  ·rename_i n hcond
   injection h with h
   subst h
   have hE:SoundAll Try.prog (EL []):=EL_sound (by simp)
   obtain ⟨k,rfl⟩:∃ k:Nat,n=(k:Int):=⟨n.toNat,by omega⟩
   have h1:¬ (k:Int)<0:=by omega
   have h2:¬ 8192<(k:Int):=by omega
   have h2':¬ 8192<k:=by omega
   have h3:(k:Int)*8≤281474976710656:=by omega
   have h4:(k:Int)≤9223372036854775807:=by omega
   have hT:=w_t0 (zero_w k)
   have hC:=w_cl (zero_w k)
   unfold m73
   repeat' with_reducible (first
    | refine ZR.h ?_ | refine zI (by decide) ?_
    | (refine zK hE ?_;intro K hK;simp[KR.ks,q73_0,q73_1,q73_2,q73_3,h1,h2,h2',h3,h4,hT,hC];(repeat' (first | refine hK _ _ ?_ | refine And.intro ?_ ?_ | (intro hc;try subst hc)))<;>(try clear hK K))
    | (refine zJ (b:=_) (by with_unfolding_all rfl) (fun hc=>?_) (fun hc=>?_)<;>simp at hc<;>(try subst hc)))
   all_goals ((try simp);refine Imp.trans (Imp.absorb (.top 88) 0 0 72 (by rfl) (by rfl) (by rfl) (.inl ⟨0,1,List.replicate k [.int .u64 0],by simp,by rfl⟩) (by simp)) ?_)
   all_goals (refine Imp.auto (by kernel_rfl) ?_ ?_<;>simp[NLe,hT,hC,absorbG,newcell])
  ·cases h
 ·cases h
end Go.W

namespace Go.W
open Go.Proofs
set_option linter.unusedSimpArgs false
set_option linter.unusedVariables false
set_option maxHeartbeats 8000000
attribute [local irreducible] Wm
attribute [local simp] nmap lkp mkPl prs prsL prT ddL idL CRenL CRen Ren RenL NObj.none CRenLL
def isWd:List AV→Bool
 | [.int .i64 w]=>decide (1≤w)&&decide (w≤32)
 | _=>false
def cellI:List AV→Int
 | [.int .i64 w]=>w
 | _=>0
def lowZ (els:List (List AV)) (i:Nat):Int:=(els.take i).foldl (fun n c=>n+cellI c) 0
theorem isWd_ex {c:List AV} (h:isWd c=true):∃ w:Int,c=[.int .i64 w]∧1≤w∧w≤32:=by
 unfold isWd at h
 split at h
 ·simp only[Bool.and_eq_true,decide_eq_true_eq]at h;exact ⟨_,rfl,h⟩
 ·cases h
theorem wd_dat {els:List (List AV)} (h:els.all isWd=true):datLL els=true :=
 List.all_eq_true.2 fun c hc=>by
  obtain ⟨w,rfl,_⟩:=isWd_ex (List.all_eq_true.1 h c hc)
  rfl
theorem wd_t0:∀ {els:List (List AV)},els.all isWd=true→t0LL els=els
 | [],_=>rfl
 | c :: r,h=>by
  simp only[List.all_cons,Bool.and_eq_true]at h
  obtain ⟨x,rfl,_⟩:=isWd_ex h.1
  simp[t0LL,t0L,AV.t0,wd_t0 h.2]
theorem wd_cl:∀ {els:List (List AV)},els.all isWd=true→clLL els=true
 | [],_=>rfl
 | c :: r,h=>by
  simp only[List.all_cons,Bool.and_eq_true]at h
  obtain ⟨x,rfl,_⟩:=isWd_ex h.1
  simp[clLL,clL,AV.cl,wd_cl h.2]
theorem lowZ_succ {els:List (List AV)} {k:Nat} {w:Int} (h:els[k]?=some [.int .i64 w]):lowZ els (k+1)=lowZ els k+w:=by
 unfold lowZ
 rw[List.take_add_one,h,Option.toList_some,List.foldl_append];rfl
theorem low_in {els:List (List AV)} (h:els.all isWd=true):∀ (k:Nat),k≤els.length→0≤lowZ els k∧lowZ els k≤32*k
 | 0,_=>by simp[lowZ]
 | k+1,hk=>by
  obtain ⟨w,hw,h1,h2⟩:=isWd_ex (List.all_eq_true.1 h _ (List.getElem_mem (show k<els.length by omega)))
  have:=low_in h k (by omega)
  rw[lowZ_succ (by rw[List.getElem?_eq_getElem (show k<els.length by omega),hw])]
  omega
def d84:List AV→List NObj→Option AV
 | [.agg [.sl (.top 0) 0 n],.int .i64 i],[.view 0 1 els]=>if n=els.length∧els.all isWd=true∧els.length≤8∧0≤i∧i≤els.length then some (.int .i64 (lowZ els i.toNat)) else none
 | _,_=>none
def I84 (els:List (List AV)) (j k:Nat):St:=⟨[(5,.int .i64 (lowZ els k)),(11,.sl (.top 0) 0 j),(12,.int .i64 j),(13,.int .i64 k)],[(0,.view 0 1 els)],1⟩
theorem ok84:ROk d84:=by
 intro xs os r h
 unfold d84 at h
 (repeat' (split at h))<;>first|(cases h;done)|(injection h with h;subst h;simp)
theorem s84:Sound Try.prog 84 (rdS d84 ok84):=by
 refine rd_sound Try.func84 nm84 rc84 rv84 ok84 fun xs os r h vs ρ0 hvs=>⟨xs,?_,fun _ h=>h,fun w0 S hS=>?_⟩
 ·unfold d84 at h
  (repeat' (split at h))<;>first|(cases h;done)|exact Nat.le_of_ble_eq_true rfl
 unfold d84 at h
 split at h
 ·split at h
  ·rename_i n i els hcond
   injection h with h
   subst h
   have hE:SoundAll Try.prog (EL []):=EL_sound (by simp)
   obtain ⟨rfl,hw,hlen,hi0,hil⟩:=hcond
   obtain ⟨j,rfl⟩:∃ j:Nat,i=(j:Int):=⟨i.toNat,by omega⟩
   have hj:j≤els.length:=by omega
   have hT:=wd_t0 hw
   have hC:=wd_cl hw
   unfold m84
   repeat' with_reducible (first
    | refine ZR.h ?_ | refine zI (by decide) ?_
    | (refine zK hE ?_;intro K hK;simp[KR.ks,q84_0,q84_1,q84_2,q84_3,q84_4,q84_5,q84_6,q84_7,hj,hil];(repeat' (first | refine hK _ _ ?_ | refine And.intro ?_ ?_ | (intro hc;try subst hc)))<;>(try clear hK K))
    | (refine zJ (b:=_) (by with_unfolding_all rfl) (fun hc=>?_) (fun hc=>?_)<;>simp at hc<;>(try subst hc)))
   all_goals (refine Wm_loop (I84 els j) (fun k=>k≤j) (fun k=>j - k) 0 (Nat.zero_le _) ?_ ?_)
   ·simp only[I84]
    rw[hS]
    refine Imp.auto (by kernel_rfl) ?_ ?_<;>simp[NLe,hT,hC,lowZ]
   ·intro k hk
    replace hk:k≤j:=hk
    simp only[I84]
    by_cases hkn:k<j
    ·have hke:k<els.length:=by omega
     obtain ⟨w,hrow,hw1,hw2⟩:=isWd_ex (List.all_eq_true.1 hw _ (List.getElem_mem hke))
     have hrow2:els[k]?=some [.int .i64 w]:=by rw[List.getElem?_eq_getElem hke,hrow]
     have hsucc:=lowZ_succ hrow2
     have hb:=low_in hw k (by omega)
     have hkI:(k:Int)<(j:Int):=by omega
     have w1:IntKind.wrap .i64 ((k:Int)+1)=(k:Int)+1:=wrap_in (by omega) (by omega)
     have w2:IntKind.wrap .i64 (lowZ els k+w)=lowZ els k+w:=wrap_in (by omega) (by omega)
     repeat' with_reducible (first
      | refine ZR.h ?_ | refine zI (by decide) ?_
      | (refine zK hE ?_;intro K hK;simp[KR.ks,q84_0,q84_1,q84_2,q84_3,q84_4,q84_5,q84_6,q84_7,hkn,hkI,hke,hrow,hrow2,w1,w2];(repeat' (first | refine hK _ _ ?_ | refine And.intro ?_ ?_ | (intro hc;try subst hc)))<;>(try clear hK K))
      | (refine zJ (b:=_) (by with_unfolding_all rfl) (fun hc=>?_) (fun hc=>?_)<;>simp at hc<;>(try subst hc)))
     all_goals refine ⟨k+1,hkn,Nat.sub_lt_sub_left hkn (Nat.lt_succ_self k),?_⟩
     all_goals simp only[I84]
     all_goals rw[hS]
     all_goals (refine Imp.auto (by kernel_rfl) ?_ ?_<;>simp[NLe,hT,hC,hsucc])
    ·have hkI:¬ (k:Int)<(j:Int):=by omega
     have hke:k=j:=by omega
     subst hke
     repeat' with_reducible (first
      | refine ZR.h ?_ | refine zI (by decide) ?_
      | (refine zK hE ?_;intro K hK;simp[KR.ks,q84_0,q84_1,q84_2,q84_3,q84_4,q84_5,q84_6,q84_7,hkI];(repeat' (first | refine hK _ _ ?_ | refine And.intro ?_ ?_ | (intro hc;try subst hc)))<;>(try clear hK K))
      | (refine zJ (b:=_) (by with_unfolding_all rfl) (fun hc=>?_) (fun hc=>?_)<;>simp at hc<;>(try subst hc)))
     all_goals first|(simp;done)|(simp at *;omega)|((try simp[hT,hC]);refine Imp.auto (by kernel_rfl) ?_ ?_<;>simp[NLe,hT,hC])
  ·cases h
 ·cases h
theorem pow_le {b:Nat} (h:b≤32):(1:Int)≤2 ^ b∧(2:Int) ^ b≤4294967296:=by
 have h1:1≤2 ^ b:=Nat.one_le_two_pow
 have h2:2 ^ b≤2 ^ 32:=Nat.pow_le_pow_right (by omega) h
 have e:((2 ^ b:Nat):Int)=(2:Int) ^ b:=by simp
 rw[← e];omega
def d85:List AV→List NObj→Option AV
 | [.agg [.sl (.top 0) 0 n],.int .i64 i],[.view 0 1 els]=>if n=els.length∧els.all isWd=true∧els.length≤8∧0≤i∧i<els.length then some (.int .u64 (2 ^ (cellI (els.getD i.toNat [])).toNat - 1)) else none
 | _,_=>none
theorem ok85:ROk d85:=by
 intro xs os r h
 unfold d85 at h
 (repeat' (split at h))<;>first|(cases h;done)|(injection h with h;subst h;simp)
theorem s85:Sound Try.prog 85 (rdS d85 ok85):=by
 refine rd_sound Try.func85 nm85 rc85 rv85 ok85 fun xs os r h vs ρ0 hvs=>⟨xs,?_,fun _ h=>h,fun w0 S hS=>?_⟩
 ·unfold d85 at h
  (repeat' (split at h))<;>first|(cases h;done)|exact Nat.le_of_ble_eq_true rfl
 unfold d85 at h
 split at h
 ·split at h
  ·rename_i n i els hcond
   injection h with h
   subst h
   have hE:SoundAll Try.prog (EL []):=EL_sound (by simp)
   obtain ⟨rfl,hw,hlen,hi0,hil⟩:=hcond
   obtain ⟨j,rfl⟩:∃ j:Nat,i=(j:Int):=⟨i.toNat,by omega⟩
   have hj:j<els.length:=by omega
   have hj0:¬ (j:Int)<0:=by omega
   have hjl:¬ (els.length:Int)≤(j:Int):=by omega
   have hjn:¬ els.length≤j:=by omega
   have hdat:=wd_dat hw
   have hT:=wd_t0 hw
   have hC:=wd_cl hw
   obtain ⟨w,hrow,hw1,hw2⟩:=isWd_ex (List.all_eq_true.1 hw _ (List.getElem_mem hj))
   obtain ⟨b,rfl⟩:∃ b:Nat,w=(b:Int):=⟨w.toNat,by omega⟩
   have hrow2:els[j]?=some [.int .i64 (b:Int)]:=by rw[List.getElem?_eq_getElem hj,hrow]
   have hcell:cellI (els.getD j [])=(b:Int):=by rw[List.getD_eq_getElem?_getD,hrow2];rfl
   obtain ⟨hp1,hp2⟩:=pow_le (b:=b) (by omega)
   simp only[Int.toNat_natCast,hcell]
   have hb0:¬ (b:Int)<0:=by omega
   have hs:shlI .u64 1 (b:Int)=2 ^ b:=by
    have:=shl_mul (a:=1) (n:=b) (by omega) (by omega) (by omega)
    rw[Int.one_mul]at this;exact this
   have hwr:IntKind.wrap .u64 (2 ^ b - 1)=2 ^ b - 1:=u64_wrap (by omega) (by omega)
   unfold m85
   repeat' with_reducible (first
    | refine ZR.h ?_ | refine zI (by decide) ?_
    | (refine zK hE ?_;intro K hK;simp[KR.ks,q85_0,q85_1,q85_2,q85_3,hj,hil,hj0,hjl,hjn,hrow,hrow2,hs,hwr,hb0];(repeat' (first | refine hK _ _ ?_ | refine And.intro ?_ ?_ | (intro hc;try subst hc)))<;>(try clear hK K))
    | (refine zJ (b:=_) (by with_unfolding_all rfl) (fun hc=>?_) (fun hc=>?_)<;>simp at hc<;>(try subst hc)))
   all_goals first|(simp;done)|(simp at *;omega)|((try simp[hT,hC]);refine Imp.auto (by kernel_rfl) ?_ ?_<;>simp[NLe,hT,hC])
  ·cases h
 ·cases h
def d61:List AV→List NObj→Option AV
 | [.agg [.sl (.top 0) 0 n],.int .u64 x,.int .i64 i],[.view 0 1 els]=>if n=els.length∧els.all isWd=true∧els.length≤8∧0≤i∧i<els.length∧0≤x∧x<18446744073709551616∧lowZ els i.toNat≤64 then some (.int .i64 (getZ x (lowZ els i.toNat).toNat (cellI (els.getD i.toNat [])).toNat)) else none
 | _,_=>none
theorem ok61:ROk d61:=by
 intro xs os r h
 unfold d61 at h
 (repeat' (split at h))<;>first|(cases h;done)|(injection h with h;subst h;simp)
theorem s61:Sound Try.prog 61 (rdS d61 ok61):=by
 refine rd_sound Try.func61 nm61 rc61 rv61 ok61 fun xs os r h vs ρ0 hvs=>⟨xs,?_,fun _ h=>h,fun w0 S hS=>?_⟩
 ·unfold d61 at h
  (repeat' (split at h))<;>first|(cases h;done)|exact Nat.le_of_ble_eq_true rfl
 unfold d61 at h
 split at h
 ·split at h
  ·rename_i n x i els hcond
   injection h with h
   subst h
   have hE:SoundAll Try.prog (EL [(84,rdS d84 ok84),(85,rdS d85 ok85)]):=EL_sound (by simp only[List.mem_cons,List.not_mem_nil,or_false,forall_eq_or_imp,forall_eq];exact ⟨s84,s85⟩)
   obtain ⟨rfl,hw,hlen,hi0,hil,hx0,hx1,hlow⟩:=hcond
   obtain ⟨j,rfl⟩:∃ j:Nat,i=(j:Int):=⟨i.toNat,by omega⟩
   have hj:j<els.length:=by omega
   have hj0:¬ (j:Int)<0:=by omega
   have hjl:¬ (els.length:Int)≤(j:Int):=by omega
   have hjn:¬ els.length≤j:=by omega
   have hdat:=wd_dat hw
   have hT:=wd_t0 hw
   have hC:=wd_cl hw
   obtain ⟨w,hrow,hw1,hw2⟩:=isWd_ex (List.all_eq_true.1 hw _ (List.getElem_mem hj))
   obtain ⟨b,rfl⟩:∃ b:Nat,w=(b:Int):=⟨w.toNat,by omega⟩
   have hrow2:els[j]?=some [.int .i64 (b:Int)]:=by rw[List.getElem?_eq_getElem hj,hrow]
   have hcell:cellI (els.getD j [])=(b:Int):=by rw[List.getD_eq_getElem?_getD,hrow2];rfl
   obtain ⟨hp1,hp2⟩:=pow_le (b:=b) (by omega)
   simp only[Int.toNat_natCast,hcell]at hlow⊢
   have hlb:=low_in hw j (by omega)
   obtain ⟨lo,hlo⟩:∃ lo:Nat,lowZ els j=(lo:Int):=⟨(lowZ els j).toNat,by omega⟩
   rw[hlo]at hlow⊢
   simp only[Int.toNat_natCast]
   have hlo2:lo≤64:=by omega
   have hl0:¬ (lo:Int)<0:=by omega
   have hsh:=shr_div (a:=x) (n:=lo) hlo2
   have hq0:0≤x / 2 ^ lo:=Int.ediv_nonneg hx0 (Int.le_of_lt (Int.pow_pos (by omega)))
   have hq1:x / 2 ^ lo≤x:=Int.ediv_le_self _ hx0
   have ham:=and_mask (a:=x / 2 ^ lo) hq0 (by omega) (n:=b) (by omega)
   have hg:=getZ_in x lo b
   have hwr:IntKind.wrap .i64 (x / 2 ^ lo % 2 ^ b)=getZ x lo b:=by
    unfold getZ at hg⊢
    exact wrap_in (by omega) (by omega)
   have hjle:(j:Int)≤(els.length:Int):=by omega
   have hjle2:j≤els.length:=by omega
   unfold m61
   repeat' with_reducible (first
    | refine ZR.h ?_ | refine zI (by decide) ?_
    | ((first | refine zK hE ?_ | refine zL hE mixT ?_);intro K hK;simp[KR.ks,KD.ks,KD.cl,q61_0,q61_1,q61_2,q61_3,hj,hil,hj0,hjl,hjn,hjle,hjle2,hrow,hrow2,hdat,hw,hlen,hlo,hcell,cellI,hl0,hsh,ham,hwr,d84,d85];(repeat' (first | refine hK _ _ ?_ | refine And.intro ?_ ?_ | (intro hc;try subst hc)))<;>(try clear hK K))
    | (refine zJ (b:=_) (by with_unfolding_all rfl) (fun hc=>?_) (fun hc=>?_)<;>simp at hc<;>(try subst hc)))
   all_goals first|(simp;done)|(simp at *;omega)|((try simp[hT,hC]);refine Imp.auto (by kernel_rfl) ?_ ?_<;>simp[NLe,hT,hC])
  ·cases h
 ·cases h
end Go.W

