/- A part of the proofs about the pair's laws (RaM, RaO). -/
import Derived.Test.YtidbbnkpglggdaaGreatRaL
import Derived.Test.YtidbbnkpglggdaaGreatWkC
import Derived.Test.YtidbbnkpglggdaaGreatPsU
import Derived.Test.YtidbbnkpglggdaaGreatRaN
import Derived.Test.YtidbbnkpglggdaaGreatRaK
namespace Go.W
open Go.Proofs
set_option linter.unusedSimpArgs false
set_option linter.unusedVariables false
set_option maxHeartbeats 8000000
set_option maxRecDepth 100000
attribute [local irreducible] Wm WmA
attribute [local simp] YP lkp Vq prs V9 prT ddL idL Yy Ue Ren Ve NObj.none ZT
def pk1 (k:Nat):List AV:=[.int .i64 (((k % 2:Nat):Int)+1),.int .i64 ((k / 2:Nat):Int),.int .i64 0,.int .i64 0]
def pkD (G M k:Nat):List AV:=[.int .i64 3,.int .i64 ((k / M / G:Nat):Int),.int .i64 (((k / M % G:Nat):Int)+1),.int .i64 ((k % M:Nat):Int)]
def pkA (k:Nat):List (List AV):=(List.range k).map pk1
def pkB (n G M k:Nat):List (List AV):=pkA (2*n)++(List.range k).map (pkD G M)
def pkZ (n G M:Nat):List (List AV):=pkB n G M (n*G*M)
theorem TF (k:Nat):(pkA k).length=k:=by unfold pkA;rw[List.length_map,List.length_range]
theorem Zcy (n G M k:Nat):(pkB n G M k).length=2*n+k:=by unfold pkB;rw[List.length_append,TF,List.length_map,List.length_range]
theorem Zgr (i:Nat):pkA (2*i)++[[.int .i64 1,.int .i64 (i:Int),.int .i64 0,.int .i64 0],[.int .i64 2,.int .i64 (i:Int),.int .i64 0,.int .i64 0]]=pkA (2*(i+1)):=by
 have e0:pk1 (2*i)=[.int .i64 1,.int .i64 (i:Int),.int .i64 0,.int .i64 0]:=by
  unfold pk1;rw[show 2*i % 2=0 by omega,show 2*i / 2=i by omega];rfl
 have e1:pk1 (2*i+1)=[.int .i64 2,.int .i64 (i:Int),.int .i64 0,.int .i64 0]:=by
  unfold pk1;rw[show (2*i+1) % 2=1 by omega,show (2*i+1) / 2=i by omega];rfl
 unfold pkA;rw[show 2*(i+1)=2*i+1+1 by omega,List.range_succ,List.range_succ,List.map_append,List.map_append,List.append_assoc];simp only[List.map_cons,List.map_nil,e0,e1]
 rfl
theorem Ze2 (n G M k:Nat):pkB n G M k++[pkD G M k]=pkB n G M (k+1):=by
 unfold pkB;rw[List.range_succ,List.map_append,List.append_assoc];rfl
theorem ZjM {G M i g n:Nat} (hg:g<G) (hn:n<M):pkD G M ((i*G+g)*M+n)=[.int .i64 3,.int .i64 (i:Int),.int .i64 ((g:Int)+1),.int .i64 (n:Int)]:=by
 have h1:∀ x:Nat,(x*M+n) / M=x:=fun x=>by
  rw[Nat.mul_comm,Nat.mul_add_div (by omega),Nat.div_eq_of_lt hn,Nat.add_zero]
 have h2:∀ x:Nat,(x*M+n) % M=n:=fun x=>by
  rw[Nat.mul_comm,Nat.mul_add_mod,Nat.mod_eq_of_lt hn]
 have h3:(i*G+g) / G=i:=by
  rw[Nat.mul_comm,Nat.mul_add_div (by omega),Nat.div_eq_of_lt hg,Nat.add_zero]
 have h4:(i*G+g) % G=g:=by
  rw[Nat.mul_comm,Nat.mul_add_mod,Nat.mod_eq_of_lt hg]
 unfold pkD;rw[h1,h2,h3,h4]
theorem ZcZ (k:Nat):t0L (pk1 k)=pk1 k∧clL (pk1 k)=true∧Zbs (pk1 k)=true:=⟨by simp[pk1,t0L,AV.t0],by simp[pk1,clL,AV.cl],rfl⟩
theorem Zh8 (G M k:Nat):t0L (pkD G M k)=pkD G M k∧clL (pkD G M k)=true∧Zbs (pkD G M k)=true:=⟨by simp[pkD,t0L,AV.t0],by simp[pkD,clL,AV.cl],rfl⟩
theorem ZjL (k:Nat):XY (pkA k)=true:=List.all_eq_true.2 fun c hc=>by
 obtain ⟨x,_,rfl⟩:=List.mem_map.1 hc;exact (ZcZ x).2.2
theorem Zix (n G M k:Nat):XY (pkB n G M k)=true:=List.all_eq_true.2 fun c hc=>by
 rcases List.mem_append.1 hc with h|h
 ·exact List.all_eq_true.1 (ZjL _) c h
 ·obtain ⟨x,_,rfl⟩:=List.mem_map.1 h
  exact (Zh8 G M x).2.2
theorem ZdD:∀ {l:List (List AV)},(∀ c,c∈l→t0L c=c)→Yo l=l
 | [],_=>rfl
 | c :: r,h=>by
  show t0L c :: Yo r=_;rw[h c (List.mem_cons_self ..),ZdD fun x hx=>h x (List.mem_cons_of_mem _ hx)]
theorem Zem:∀ {l:List (List AV)},(∀ c,c∈l→clL c=true)→Xr l=true
 | [],_=>rfl
 | c :: r,h=>by
  show (clL c&&Xr r)=true;rw[h c (List.mem_cons_self ..),Zem fun x hx=>h x (List.mem_cons_of_mem _ hx)];rfl
theorem ZcQ {n:Nat}:∀ {l:List (List AV)},(∀ c,c∈l→tlL n c=true)→UR n l=true
 | [],_=>rfl
 | c :: r,h=>by
  show (tlL n c&&UR n r)=true;rw[h c (List.mem_cons_self ..),ZcQ fun x hx=>h x (List.mem_cons_of_mem _ hx)];rfl
theorem Zj5 (q k:Nat):UR q (pkA k)=true:=ZcQ fun c hc=>by obtain ⟨x,_,rfl⟩:=List.mem_map.1 hc;simp[pk1,tlL,AV.tl]
theorem Zkz (q n G M k:Nat):UR q (pkB n G M k)=true:=ZcQ fun c hc=>by
 rcases List.mem_append.1 hc with h|h
 ·obtain ⟨x,_,rfl⟩:=List.mem_map.1 h;simp[pk1,tlL,AV.tl]
 ·obtain ⟨x,_,rfl⟩:=List.mem_map.1 h;simp[pkD,tlL,AV.tl]
theorem Zj9 (k:Nat):Yo (pkA k)=pkA k:=ZdD fun c hc=>by obtain ⟨x,_,rfl⟩:=List.mem_map.1 hc;exact (ZcZ x).1
theorem Zj2 (k:Nat):Xr (pkA k)=true:=Zem fun c hc=>by obtain ⟨x,_,rfl⟩:=List.mem_map.1 hc;exact (ZcZ x).2.1
theorem ZgW (n G M k:Nat):Yo (pkB n G M k)=pkB n G M k:=ZdD fun c hc=>by
 rcases List.mem_append.1 hc with h|h
 ·obtain ⟨x,_,rfl⟩:=List.mem_map.1 h;exact (ZcZ x).1
 ·obtain ⟨x,_,rfl⟩:=List.mem_map.1 h;exact (Zh8 G M x).1
theorem ZgO (n G M k:Nat):Xr (pkB n G M k)=true:=Zem fun c hc=>by
 rcases List.mem_append.1 hc with h|h
 ·obtain ⟨x,_,rfl⟩:=List.mem_map.1 h;exact (ZcZ x).2.1
 ·obtain ⟨x,_,rfl⟩:=List.mem_map.1 h;exact (Zh8 G M x).2.1
def Ip1 (a b c d e f g:Int) (n G M:Nat) (i:Nat):St:=⟨[(1,.ptr (.top 0) 0 0),(3,.sl (.top 1) 0 (2*i)),(4,.int .i64 n),(5,.int .i64 i)],[(0,.cells 0 [.int .i64 a,.int .i64 b,.int .i64 c,.int .i64 d,.int .i64 e,.int .i64 f,.int .i64 g]),(1,.arr 0 4 (pkA (2*i)))],2⟩
def Ip2 (a b c d e f g:Int) (n G M:Nat) (i:Nat):St:=⟨[(1,.ptr (.top 0) 0 0),(3,.sl (.top 1) 0 (2*n+i*G*M)),(4,.int .i64 n),(6,.int .i64 i)],[(0,.cells 0 [.int .i64 a,.int .i64 b,.int .i64 c,.int .i64 d,.int .i64 e,.int .i64 f,.int .i64 g]),(1,.arr 0 4 (pkB n G M (i*G*M)))],2⟩
def Ip3 (a b c d e f g:Int) (n G M:Nat) (i q:Nat):St:=⟨[(1,.ptr (.top 0) 0 0),(3,.sl (.top 1) 0 (2*n+(i*G+q)*M)),(4,.int .i64 n),(6,.int .i64 i),(7,.int .i64 ((q:Int)+1))],[(0,.cells 0 [.int .i64 a,.int .i64 b,.int .i64 c,.int .i64 d,.int .i64 e,.int .i64 f,.int .i64 g]),(1,.arr 0 4 (pkB n G M ((i*G+q)*M)))],2⟩
def Ip4 (a b c d e f g:Int) (n G M:Nat) (i q r:Nat):St:=⟨[(1,.ptr (.top 0) 0 0),(3,.sl (.top 1) 0 (2*n+((i*G+q)*M+r))),(4,.int .i64 n),(6,.int .i64 i),(7,.int .i64 ((q:Int)+1)),(8,.int .i64 r)],[(0,.cells 0 [.int .i64 a,.int .i64 b,.int .i64 c,.int .i64 d,.int .i64 e,.int .i64 f,.int .i64 g]),(1,.arr 0 4 (pkB n G M ((i*G+q)*M+r)))],2⟩
def d56:List AV→List NObj→Option AV
 | [.agg [.int .i64 a,.int .i64 b,.int .i64 c,.int .i64 d,.int .i64 e,.int .i64 f,.int .i64 g]],[]=>if X7 a b c d e f g=true then some (.os 0 4 (pkZ (a*b).toNat g.toNat (f+1).toNat)) else none
 | _,_=>none
theorem ok56:ROk d56:=by
 intro xs os r h;unfold d56 at h
 (repeat' (split at h))<;>first|(cases h;done)|((injection h with h;subst h;simp;exact Zix _ _ _ _))
theorem s56:Sound Tryz.prog 56 (rdS d56 ok56):=by
 refine Zo (ac:=?ac) (res:=?res) Tryz.func56 (by kernel_rfl) (ha:=?ha) (hk:=?hk) (hok:=ok56) fun xs os r h vs ρ0 hvs=>?w
 case ha=>conv=>lhs;cbv
 case hk=>kernel_rfl
 refine ⟨xs,?_,fun _ h=>h,fun w0 S hS=>?_⟩
 ·unfold d56 at h
  (repeat' (split at h))<;>first|(cases h;done)|exact Nat.le_of_ble_eq_true rfl
 unfold d56 at h;split at h
 ·split at h
  ·rename_i a b c d e f g hcond
   injection h with h;subst h;have hE:Zd Tryz.prog (EL []):=Ze (by simp);have hc:=ZE hcond;have hall:=ZB hcond;obtain ⟨n,hn⟩:∃ n:Nat,a*b=n:=⟨(a*b).toNat,by omega⟩;obtain ⟨G,hG⟩:∃ G:Nat,g=G:=⟨g.toNat,by omega⟩;obtain ⟨M,hM⟩:∃ M:Nat,f+1=M:=⟨(f+1).toNat,by omega⟩;subst hG;have hf:f=(M:Int) - 1:=(by omega);subst hf;rw[hn]at hall;have hm1:(M:Int) - 1+1=(M:Int):=(by omega);rw[hn,hm1,show (n:Int).toNat=n by omega,show (G:Int).toNat=G by omega,show (M:Int).toNat=M by omega];have wn:IntKind.wrap .i64 (n:Int)=(n:Int):=Zg (by omega) (by omega);have n24:n≤24:=(by omega);have G15:G≤15:=(by omega);have M5:M≤5:=(by omega);have hGM:∀ i q r:Nat,i<n→q<G→r<M→(i*G+q)*M+r<24*15*5:=fun i q r hi hq hr=>by
    have h1:i*G≤23*15:=Nat.mul_le_mul (by omega) (by omega);have h2:(i*G+q)*M≤(23*15+14)*5:=Nat.mul_le_mul (by omega) (by omega);omega
   have pt1:=fun k=>Zj9 k;have pc1:=fun k=>Zj2 k;have pk1':=fun k=>TF k;have pd1:=fun k=>ZjL k;have pt2:=fun k=>ZgW n G M k;have pc2:=fun k=>ZgO n G M k;have pl2':=fun k=>Zcy n G M k;have pd2:=fun k=>Zix n G M k;have ptl1:=fun q k=>Zj5 q k;have ptl2:=fun q k=>Zkz q n G M k
   repeat' with_reducible (first|refine ZR.h ?_|refine kI ?_|(refine kR hE ?_;intro K hK;simp[hn,wn,hm1];(repeat' (first|refine hK _ _ ?_|apply And.intro|(intro hc;try subst hc)))<;>(try clear hK K))|(refine kT (fun hc=>?_) (fun hc=>?_)<;>simp at hc<;>(try subst hc)))
   all_goals try (show Zb _ _=true;kernel_rfl)
   all_goals (refine kL (fun i=>Ip1 a b c d e ((M:Int) - 1) G n G M i) (fun i=>i≤n) (fun i=>n - i) 0 (Nat.zero_le _) ?_ ?_)
   ·simp only[Ip1]
    rw[hS]
    (refine Imp.aut ?_ ?_<;>simp[NLe,XL,pkA])
   ·intro i hi
    replace hi:i≤n:=hi;simp only[Ip1];by_cases hin:i<n
    ·have w1:IntKind.wrap .i64 ((i:Int)+1)=(i:Int)+1:=Zg (by omega) (by omega)
     have b1:(2*i+2)*32≤140737488355328:=(by omega);have b2:2*i+2≤9223372036854775807:=(by omega);have hsu:=Zgr i
     repeat' with_reducible (first|refine ZR.h ?_|refine kI ?_|(refine kR hE ?_;intro K hK;simp[hin,w1,b1,b2,pk1',pd1,ptl1];(repeat' (first|refine hK _ _ ?_|apply And.intro|(intro hc;try subst hc)))<;>(try clear hK K))|(refine kT (fun hc=>?_) (fun hc=>?_)<;>simp at hc<;>(try subst hc)))
     all_goals try (show Zb _ _=true;kernel_rfl)
     all_goals refine ⟨i+1,hin,Nat.sub_lt_sub_left hin (Nat.lt_succ_self i),?_⟩
     all_goals rw[hS]
     all_goals simp only[Ip1]
     all_goals (refine Imp.aut ?_ ?_<;>simp[NLe,XL,hsu,pt1,pc1,pk1',Nat.mul_add])
    ·have hie:i=n:=by omega
     subst hie
     repeat' with_reducible (first|refine ZR.h ?_|refine kI ?_|(refine kR hE ?_;intro K hK;simp[];(repeat' (first|refine hK _ _ ?_|apply And.intro|(intro hc;try subst hc)))<;>(try clear hK K))|(refine kT (fun hc=>?_) (fun hc=>?_)<;>simp at hc<;>(try subst hc)))
     all_goals try (show Zb _ _=true;kernel_rfl)
     all_goals (refine kL (fun j=>Ip2 a b c d e ((M:Int) - 1) G i G M j) (fun j=>j≤i) (fun j=>i - j) 0 (Nat.zero_le _) ?_ ?_)
     ·simp only[Ip2]
      rw[hS]
      (refine Imp.aut ?_ ?_<;>simp[NLe,XL,pkB,pt1,pc1,pk1'])
     ·intro j hj
      replace hj:j≤i:=hj;simp only[Ip2];by_cases hjn:j<i
      ·have w1:IntKind.wrap .i64 ((j:Int)+1)=(j:Int)+1:=Zg (by omega) (by omega)
       repeat' with_reducible (first|refine ZR.h ?_|refine kI ?_|(refine kR hE ?_;intro K hK;simp[hjn];(repeat' (first|refine hK _ _ ?_|apply And.intro|(intro hc;try subst hc)))<;>(try clear hK K))|(refine kT (fun hc=>?_) (fun hc=>?_)<;>simp at hc<;>(try subst hc)))
       all_goals try (show Zb _ _=true;kernel_rfl)
       all_goals (refine kL (fun q=>Ip3 a b c d e ((M:Int) - 1) G i G M j q) (fun q=>q≤G) (fun q=>G - q) 0 (Nat.zero_le _) ?_ ?_)
       ·simp only[Ip3]
        rw[hS]
        (refine Imp.aut ?_ ?_<;>simp[NLe,XL,pt2,pc2,pl2',Nat.add_zero])
       ·intro q hq
        replace hq:q≤G:=hq;simp only[Ip3];by_cases hqG:q<G
        ·have w2:IntKind.wrap .i64 ((q:Int)+1+1)=(q:Int)+1+1:=Zg (by omega) (by omega)
         have hqI:(q:Int)+1≤(G:Int):=by omega
         repeat' with_reducible (first|refine ZR.h ?_|refine kI ?_|(refine kR hE ?_;intro K hK;simp[hqI];(repeat' (first|refine hK _ _ ?_|apply And.intro|(intro hc;try subst hc)))<;>(try clear hK K))|(refine kT (fun hc=>?_) (fun hc=>?_)<;>simp at hc<;>(try subst hc)))
         all_goals try (show Zb _ _=true;kernel_rfl)
         all_goals (refine kL (fun r=>Ip4 a b c d e ((M:Int) - 1) G i G M j q r) (fun r=>r≤M) (fun r=>M - r) 0 (Nat.zero_le _) ?_ ?_)
         ·simp only[Ip4]
          rw[hS]
          (refine Imp.aut ?_ ?_<;>simp[NLe,XL,pt2,pc2,pl2',Nat.add_zero])
         ·intro r hr
          replace hr:r≤M:=hr;simp only[Ip4];by_cases hrM:r<M
          ·have w3:IntKind.wrap .i64 ((r:Int)+1)=(r:Int)+1:=Zg (by omega) (by omega)
           have hrI:(r:Int)≤(M:Int) - 1:=(by omega);have hsu:=Ze2 i G M ((j*G+q)*M+r);rw[ZjM hqG hrM]at hsu;have hb:=hGM j q r hjn hqG hrM;obtain ⟨K,hK⟩:∃ K,(j*G+q)*M+r=K:=⟨_,rfl⟩;rw[hK]at hsu hb;have b1:(2*i+K+1)*32≤140737488355328:=(by omega);have b2:2*i+K+1≤9223372036854775807:=(by omega);rw[hK]
           repeat' with_reducible (first|refine ZR.h ?_|refine kI ?_|(refine kR hE ?_;intro K hK;simp[hrI,w3,b1,b2,pl2',pd2,ptl2];(repeat' (first|refine hK _ _ ?_|apply And.intro|(intro hc;try subst hc)))<;>(try clear hK K))|(refine kT (fun hc=>?_) (fun hc=>?_)<;>simp at hc<;>(try subst hc)))
           all_goals try (show Zb _ _=true;kernel_rfl)
           all_goals refine ⟨r+1,hrM,Nat.sub_lt_sub_left hrM (Nat.lt_succ_self r),?_⟩
           all_goals rw[hS]
           all_goals simp only[Ip4]
           all_goals rw[show (j*G+q)*M+(r+1)=K+1 by omega]
           all_goals (refine Imp.aut ?_ ?_<;>simp[NLe,XL,hsu,pt2,pc2,pl2',Nat.add_assoc])
          ·have hrI:¬ ((r:Int)≤(M:Int) - 1):=by omega
           have hre:r=M:=(by omega);subst hre
           repeat' with_reducible (first|refine ZR.h ?_|refine kI ?_|(refine kR hE ?_;intro K hK;simp[hrI,w2];(repeat' (first|refine hK _ _ ?_|apply And.intro|(intro hc;try subst hc)))<;>(try clear hK K))|(refine kT (fun hc=>?_) (fun hc=>?_)<;>simp at hc<;>(try subst hc)))
           all_goals try (show Zb _ _=true;kernel_rfl)
           all_goals refine ⟨q+1,hqG,Nat.sub_lt_sub_left hqG (Nat.lt_succ_self q),?_⟩
           all_goals rw[hS]
           all_goals simp only[Ip3]
           all_goals rw[show (j*G+(q+1))*r=(j*G+q)*r+r by rw[← Nat.add_assoc,Nat.add_mul,Nat.one_mul]]
           all_goals (refine Imp.aut ?_ ?_<;>simp[NLe,XL,pt2,pc2,pl2'])
        ·have hqI:¬ ((q:Int)+1≤(G:Int)):=by omega
         have hqe:q=G:=(by omega);subst hqe
         repeat' with_reducible (first|refine ZR.h ?_|refine kI ?_|(refine kR hE ?_;intro K hK;simp[hqI,w1];(repeat' (first|refine hK _ _ ?_|apply And.intro|(intro hc;try subst hc)))<;>(try clear hK K))|(refine kT (fun hc=>?_) (fun hc=>?_)<;>simp at hc<;>(try subst hc)))
         all_goals try (show Zb _ _=true;kernel_rfl)
         all_goals refine ⟨j+1,hjn,Nat.sub_lt_sub_left hjn (Nat.lt_succ_self j),?_⟩
         all_goals rw[hS]
         all_goals simp only[Ip2]
         all_goals rw[show (j+1)*q=j*q+q by rw[Nat.add_mul,Nat.one_mul]]
         all_goals (refine Imp.aut ?_ ?_<;>simp[NLe,XL,pt2,pc2,pl2'])
      ·have hje:j=i:=by omega
       subst hje
       repeat' with_reducible (first|refine ZR.h ?_|refine kI ?_|(refine kR hE ?_;intro K hK;simp[];(repeat' (first|refine hK _ _ ?_|apply And.intro|(intro hc;try subst hc)))<;>(try clear hK K))|(refine kT (fun hc=>?_) (fun hc=>?_)<;>simp at hc<;>(try subst hc)))
       all_goals try (show Zb _ _=true;kernel_rfl)
       all_goals (try simp)
       all_goals (refine Imp.aut ?_ ?_<;>simp[NLe,XL,pt2,pc2,pl2',pkZ])
  ·cases h
 ·cases h
set_option maxHeartbeats 200000000
theorem Zfc {c:List AV} (h:row14 c=true):∃ x0 x1 x2 x3 x4 x5 x6 x7 x8 x9 xa xb xc xd:Int,c=[.int .i64 x0,.int .i64 x1,.int .i64 x2,.int .i64 x3,.int .i64 x4,.int .i64 x5,.int .i64 x6,.int .i64 x7,.int .i64 x8,.int .i64 x9,.int .i64 xa,.int .i64 xb,.int .i64 xc,.int .i64 xd]:=by
 simp only[row14,Bool.and_eq_true,decide_eq_true_eq]at h;obtain ⟨h1,h2⟩:=h;have hx:∀ r:List AV,Zgx r=true→∃ l:List Int,r=l.map (AV.int .i64):=by
  intro r
  induction r with
  | nil=>exact fun _=>⟨[],rfl⟩
  | cons v r ih =>
   intro h;simp only[Zgx,List.all_cons,Bool.and_eq_true]at h;obtain ⟨l,hl⟩:=ih h.2;have hv:=h.1;split at hv
   ·rename_i x
    exact ⟨x :: l,by rw[hl];rfl⟩
   ·cases hv
 obtain ⟨l,rfl⟩:=hx c h1;rw[List.length_map]at h2
 match l,h2 with
 | [x0,x1,x2,x3,x4,x5,x6,x7,x8,x9,xa,xb,xc,xd],_=>exact ⟨x0,x1,x2,x3,x4,x5,x6,x7,x8,x9,xa,xb,xc,xd,rfl⟩
def JA (W:WZ) (Q:QZ) (pl:List (List AV)) (L i:Nat):St:=⟨[(0,.ptr (.top 0) 0 0),(1,.ptr (.top 1) 0 0),(5,.sl (.top 2) 0 L),(53,.sl (.top 3) 0 L),(54,.int .i64 L),(55,.int .i64 i)],[(0,.cells 0 (wzC W)),(1,.cells 0 (qzC Q)),(2,.arr 0 1 W.ws),(3,.arr 0 4 pl)],4⟩
def JB (W:WZ) (Q:QZ) (L i:Nat):St:=⟨[(1,.ptr (.top 1) 0 0),(120,.sl (.sub (.top 0) 0 0 9) 0 L),(121,.int .i64 L),(122,.int .i64 i)],[(0,.cells 0 (wzC W)),(1,.cells 0 (qzC Q))],2⟩
open Classical in
noncomputable def d15:List AV→Option Ans
 | [.op _ w,.op _ q]=>(match yF w,Zay q with
  | some W,some Q=>if Sim W Q∧smW W=true∧smQ Q=true then some ⟨.bool true,[.cells 0 (wzC W),.cells 0 (qzC Q)]⟩ else none
  | _,_=>none)
 | _=>none
theorem ok15:NOk [(10,true),(13,true)] d15:=by
 intro xs aa h;unfold d15 at h;split at h
 ·rename_i t1 w t2 q
  split at h
  ·rename_i W Q hW hQ
   split at h
   ·rename_i hc
    obtain ⟨u1,u2,u3,u4,rfl⟩:=ZN hW;obtain rfl:=Yv hQ;injection h with h;subst h;have hok:=hc.1.okq;have q8:=(Zr hok).2.2.2.2.2.2.2.1;obtain ⟨hcf,hw,hwl,hs0,ht0,ht1,hlg⟩:=Zk hc.1.okw;have hT:=ZW hw;have hC:=ZV hw;have hTl:=ZC hlg;have hCl:=ZD hlg;have hz1:=Zd2 hc.1.okw;refine ⟨Zp ?_,?_⟩
    ·simp[Y3 Q q8,YA Q q8,wzL,hT,hC,hTl,hCl,hz1]
    ·simp
   ·cases h
  ·cases h
 ·cases h
theorem s15:Sound Tryz.prog 15 (Zm [(10,true),(13,true)] d15 ok15):=by
 refine Zi (ac:=?ac) (res:=?res) Tryz.func15 (by kernel_rfl) (ha:=?ha) (hk:=?hk) (hok:=ok15) (fun xs a h=>?_) fun xs a h w0 S hS=>?_
 case ha=>conv=>lhs;cbv
 case hk=>kernel_rfl
 ·unfold d15 at h
  (repeat' (split at h))<;>first|(cases h;done)|exact Nat.le_of_ble_eq_true rfl
 unfold d15 at h;split at h
 ·rename_i t1 w t2 q
  split at h
  ·rename_i W Q hW hQ
   split at h
   ·rename_i hcond
    obtain ⟨u1,u2,u3,u4,rfl⟩:=ZN hW;obtain rfl:=Yv hQ;injection h with h;subst h;clear hQ hW;have hE:Zd Tryz.prog (EL [(55,Zm [(7,false)] d55 ok55),(56,rdS d56 ok56),(57,Zm [(1,false)] d57 ok57),(58,rdS d58 ok58),(59,rdS d59 ok59),(60,rdS d60 ok60),(61,Zm [(13,false)] d61 ok61)]):=Ze (by simp only[List.mem_cons,List.not_mem_nil,or_false,forall_eq_or_imp,forall_eq];exact ⟨s55,s56,s57,s58,s59,s60,s61⟩);obtain ⟨sim,hsm,hsq⟩:=hcond;have hok:=sim.okq;have hwk:=sim.okw;obtain ⟨pa,pb,pc,pd,pf,pg⟩:=sim.par;have hS0:=Z4 Q.S;have hS1:=Z5 Q.S;have hT0:=Z7 Q.T;have hT1:=Z6 Q.T;have hJ0:=Z1 Q.J;have hJ1:=Z0 Q.J;obtain ⟨q1,q2,q3,q4,q5,q6,q7,q8,q9⟩:=Zr hok;have hL0:=ZC q8;have hL1:=ZD q8;obtain ⟨hcf,hw,hwl,hs0,ht0,ht1,hlg⟩:=Zk hwk;have hT:=ZW hw;have hC:=ZV hw;have hTl:=ZC hlg;have hCl:=ZD hlg;have hm:=of_decide_eq_true hsm;have hcx:=ZE hcf;have hall:=ZB hcf;have hwd:=Yt (f:=W.f) (g:=W.g) (show 0≤W.a*W.b by omega) hall.2 (by omega) (by omega);obtain ⟨n,hn⟩:∃ n:Nat,W.a*W.b=n:=⟨(W.a*W.b).toNat,by omega⟩;have q2':(Q.S.length:Int)=n:=(by rw[q2,pa,pb,hn]);have q3':(Q.T.length:Int)=n:=(by rw[q3,pa,pb,hn]);have q4':(Q.J.length:Int)=n:=(by rw[q4,pa,pb,hn]);obtain ⟨G,hG⟩:∃ G:Nat,W.g=G:=⟨W.g.toNat,by omega⟩;obtain ⟨M,hM⟩:∃ M:Nat,W.f+1=M:=⟨(W.f+1).toNat,by omega⟩;have hplz:pkZ (Q.a*Q.b).toNat Q.g.toNat (Q.f+1).toNat=pkB n G M (n*G*M):=by
     rw[pa,pb,pg,pf,hn,hG,hM]
     rfl
    have hLn:W.ws.length=2*n+n*G*M:=by
     rw[hwl,hn,hG,hM];have:((n:Int)*2+(n:Int)*G*M)=((2*n+n*G*M:Nat):Int):=by
      rw[Int.natCast_add,Int.natCast_mul,Int.natCast_mul,Int.natCast_mul];omega
     rw[this];rfl
    obtain ⟨L,hL⟩:∃ L,W.ws.length=L:=⟨_,rfl⟩;have hL24:1≤L∧L≤8192:=(by omega);have h55:∀ u1 u2 s,d55 [.op u1 [.os u2 1 W.ws,.int .i64 s,.bot,.bot,.bot,.bot,.bot]]=some ⟨.os 0 1 W.ws,[.free]⟩:=fun u1 u2 s=>by
     simp only[d55];rw[if_pos ⟨hw,by omega,by omega⟩]
    have h56:d56 [.agg [.int .i64 Q.a,.int .i64 Q.b,.int .i64 Q.c,.int .i64 Q.d,.int .i64 Q.e,.int .i64 Q.f,.int .i64 Q.g]] []=some (.os 0 4 (pkB n G M (n*G*M))):=by
     simp only[d56];rw[if_pos q1,hplz]
    have hpl:=Zcy n G M (n*G*M);rw[← hLn,hL]at hpl;have hpt:=ZgW n G M (n*G*M);have hpc:=ZgO n G M (n*G*M);have hpd:=Zix n G M (n*G*M);have hwdt:=Zeu hw;have hlgE:=sim.lg;have hnow:=sim.now;have atA:∀ k:Nat,k<n→(pkB n G M (n*G*M))[2*k]?=some [.int .i64 1,.int .i64 (k:Int),.int .i64 0,.int .i64 0]∧(pkB n G M (n*G*M))[2*k+1]?=some [.int .i64 2,.int .i64 (k:Int),.int .i64 0,.int .i64 0]:=fun k hk=>by
     unfold pkB;rw[List.getElem?_append_left (by rw[TF];omega),List.getElem?_append_left (by rw[TF];omega)];unfold pkA;rw[List.getElem?_map,List.getElem?_map,List.getElem?_range (by omega),List.getElem?_range (by omega)];simp only[Option.map_some,pk1];rw[show 2*k % 2=0 by omega,show 2*k / 2=k by omega,show (2*k+1) % 2=1 by omega,show (2*k+1) / 2=k by omega];exact ⟨rfl,rfl⟩
    have atB:∀ k:Nat,k<n*G*M→(pkB n G M (n*G*M))[2*n+k]?=some (pkD G M k):=fun k hk=>by
     unfold pkB;rw[List.getElem?_append_right (by rw[TF];omega),TF,List.getElem?_map,show 2*n+k - 2*n=k by omega,List.getElem?_range hk]
     rfl
    obtain ⟨pl,hple⟩:∃ pl,pkB n G M (n*G*M)=pl:=⟨_,rfl⟩;rw[hple]at hpl hpt hpc hpd atA atB h56;rw[hL]at hLn;simp only[qzC,wzL,wzC]at hS⊢
    repeat' with_reducible (first|refine ZR.h ?_|refine kI ?_|((first|refine kR hE ?_|refine kD hE Zq ?_);intro K hK;simp[hS0,hS1,hT0,hT1,hJ0,hJ1,hL0,hL1,hT,hC,hTl,hCl,hL,hpl,hlgE,hnow,h55,h56,hpt,hpc,hpd,hwdt,ht0,ht1,d57];(repeat' (first|refine hK _ _ ?_|apply And.intro|(intro hc;try subst hc)))<;>(try clear hK K))|(refine kT (fun hc=>?_) (fun hc=>?_)<;>simp at hc<;>(try subst hc)))
    all_goals try (show Zb _ _=true;kernel_rfl)
    all_goals (refine kL (fun i=>JA W Q pl L i) (fun i=>i≤L) (fun i=>L - i) 0 (Nat.zero_le _) ?_ ?_)
    ·as_aux_lemma =>
      simp only[JA,wzC,qzC]
      rw[hS]
      (refine Imp.aut ?_ ?_<;>simp[NLe,XL,hS0,hS1,hT0,hT1,hJ0,hJ1,hL0,hL1,hT,hC,hTl,hCl,hpt,hpc,hL,hpl,hlgE,hnow])
    ·as_aux_lemma =>
      intro i hi
      replace hi:i≤L:=hi
      have hw0:=Zhd hwk
      have hw1:=Zd2 hwk
      by_cases hiL:i<L
      ·have wk1:IntKind.wrap .i64 ((i:Int)+1)=(i:Int)+1:=Zg (by omega) (by omega)
       have hat:=Zg8 hw (i:=i) (by omega);have hate:=Y5 hat.1;have hb:=hat.2;have hiW:i<W.ws.length:=(by omega);by_cases hA:i<2*n
       ·obtain ⟨k,hk⟩:∃ k,k=i / 2:=⟨_,rfl⟩
        have hkn:k<n:=(by omega);have hkI:(k:Int)<W.a*W.b:=(by omega);have st:=sim.st k (by omega) hkI;have tm:=sim.tm k (by omega) hkI;rw[show ((k:Nat):Int).toNat=k by omega]at st tm;have hkS:k<Q.S.length:=(by omega);have hkT:k<Q.T.length:=(by omega);have hsl:=Uk Q.S;have htl:=vu Q.T;have gs:=T9 st;have gt:=vL tm;have gse:=Y5 gs;have gte:=Y5 gt;by_cases h2:i=2*k
        ·have row:=(atA k hkn).1
         rw[← h2]at row;have rowe:=Y5 row;have e:Zc (wAt W.ws i)=stW W k:=(by unfold stW sAt;rw[show (2*(k:Int)).toNat=i by omega]);have h58:d58 [.int .u64 (wAt W.ws i)] []=some (stA (stW W k)):=(by simp only[d58];rw[if_pos hb,e]);obtain ⟨⟨ck,cf,cg,cl,cx⟩,hss⟩:∃ s,stW W k=s:=⟨_,rfl⟩;rw[hss]at h58 gs gse;simp only[stA,stL]at h58 gs gse;simp only[JA,qzC,wzC]
         as_aux_lemma =>
          repeat' with_reducible (first|refine ZR.h ?_|refine kI ?_|((first|refine kR hE ?_|refine kD hE Zq ?_);intro K hK;simp[hS0,hS1,hT0,hT1,hJ0,hJ1,hL0,hL1,hT,hC,hTl,hCl,hpt,hpc,hiL,hiW,hL,hpl,hkS,hsl,row,rowe,hat.1,hate,h58,gs,gse,wk1,d57];(repeat' (first|refine hK _ _ ?_|apply And.intro|(intro hc;try subst hc)))<;>(try clear hK K))|(refine kT (fun hc=>?_) (fun hc=>?_)<;>simp at hc<;>(try subst hc)))
          all_goals try (show Zb _ _=true;kernel_rfl)
          all_goals refine ⟨i+1,hiL,Nat.sub_lt_sub_left hiL (Nat.lt_succ_self i),?_⟩
          all_goals rw[hS]
          all_goals simp only[JA,qzC,wzC]
          all_goals (refine Imp.aut ?_ ?_<;>simp[NLe,XL,hS0,hS1,hT0,hT1,hJ0,hJ1,hL0,hL1,hT,hC,hTl,hCl,hpt,hpc])
        ·have row:=(atA k hkn).2
         rw[show 2*k+1=i by omega]at row;have rowe:=Y5 row;have e:Yc (wAt W.ws i)=tmW W k:=(by unfold tmW tAt;rw[show (2*(k:Int)+1).toNat=i by omega]);have h59:d59 [.int .u64 (wAt W.ws i)] []=some (tmA (tmW W k)):=(by simp only[d59];rw[if_pos hb,e]);obtain ⟨⟨ck,cf,cg,cl,cx⟩,hss⟩:∃ s,tmW W k=s:=⟨_,rfl⟩;rw[hss]at h59 gt gte;simp only[tmA,tmC]at h59 gt gte;simp only[JA,qzC,wzC]
         as_aux_lemma =>
          repeat' with_reducible (first|refine ZR.h ?_|refine kI ?_|((first|refine kR hE ?_|refine kD hE Zq ?_);intro K hK;simp[hS0,hS1,hT0,hT1,hJ0,hJ1,hL0,hL1,hT,hC,hTl,hCl,hpt,hpc,hiL,hiW,hL,hpl,hkT,htl,row,rowe,hat.1,hate,h59,gt,gte,wk1,d57];(repeat' (first|refine hK _ _ ?_|apply And.intro|(intro hc;try subst hc)))<;>(try clear hK K))|(refine kT (fun hc=>?_) (fun hc=>?_)<;>simp at hc<;>(try subst hc)))
          all_goals try (show Zb _ _=true;kernel_rfl)
          all_goals refine ⟨i+1,hiL,Nat.sub_lt_sub_left hiL (Nat.lt_succ_self i),?_⟩
          all_goals rw[hS]
          all_goals simp only[JA,qzC,wzC]
          all_goals (refine Imp.aut ?_ ?_<;>simp[NLe,XL,hS0,hS1,hT0,hT1,hJ0,hJ1,hL0,hL1,hT,hC,hTl,hCl,hpt,hpc])
       ·obtain ⟨j,hj⟩:∃ j,i=2*n+j:=⟨i - 2*n,by omega⟩
        have hjn:j<n*G*M:=(by omega);have row:=atB j hjn;rw[← hj]at row;have M0:0<M:=(by omega);have G0:0<G:=(by omega);have x0:j / M / G<n:=Nat.div_lt_of_lt_mul (by rw[Nat.mul_comm];exact Nat.div_lt_of_lt_mul (by rw[Nat.mul_comm];exact hjn));have g0:j / M % G<G:=Nat.mod_lt _ G0;have n0:j % M<M:=Nat.mod_lt _ M0;have ej:(j / M / G*G+j / M % G)*M+j % M=j:=(by rw[Nat.mul_comm _ G,Nat.div_add_mod,Nat.mul_comm _ M,Nat.div_add_mod]);unfold pkD at row;obtain ⟨x,hx⟩:∃ x,j / M / G=x:=⟨_,rfl⟩;obtain ⟨q,hq⟩:∃ x,j / M % G=x:=⟨_,rfl⟩;obtain ⟨r,hr⟩:∃ x,j % M=x:=⟨_,rfl⟩;rw[hx,hq,hr]at row ej;rw[hx]at x0;rw[hq]at g0;rw[hr]at n0;have rowe:=Y5 row;have xI:(x:Int)<W.a*W.b:=(by omega);obtain ⟨l,hl1,hl2⟩:=sim.jn x ((q:Int)+1) r (by omega) xI (by omega) (by omega) (by omega) (by omega);have esl:(ZY W.a W.b W.f W.g x ((q:Int)+1) r).toNat=i:=by
         rw[zr (by omega) xI (by omega) (by omega) (by omega) (by omega),hn,hG,hM];have e2:(n:Int)*2+((x:Int)*G+((q:Int)+1) - 1)*M+r=((2*n+((x*G+q)*M+r):Nat):Int):=by
          rw[show (x:Int)*G+((q:Int)+1) - 1=(x:Int)*G+q by omega,Int.natCast_add,Int.natCast_add,Int.natCast_mul,Int.natCast_mul,Int.natCast_add,Int.natCast_mul];omega
         rw[e2,ej,← hj];rfl
        rw[esl]at hl2;obtain ⟨l',hl',z1,z2,z3⟩:=Ze5 hok (x:=x) (gn:=(q:Int)+1) (n:=r) (by omega) (by rw[pa,pb];exact xI) (by omega) (by rw[pg];omega) (by omega) (by rw[pf];omega);rw[hl1]at hl';injection hl' with hl';subst hl';have ejs:Uv Q ((q:Int)+1) r=((q:Int)+1 - 1)*(W.f+1)+r:=(by unfold Uv;rw[pf]);rw[← ejs]at hl2;have h61:∀ u,d61 [.op u (qzC Q),.int .i64 ((q:Int)+1),.int .i64 r]=some ⟨.int .i64 (Uv Q ((q:Int)+1) r),[.free]⟩:=fun u=>e61 hok (by omega) (by rw[pg];omega) (by omega) (by rw[pf];omega) u;obtain ⟨K,hK⟩:=Int.eq_ofNat_of_zero_le z1;rw[hK]at h61 hl2 z2;rw[show ((x:Nat):Int).toNat=x by omega]at hl1;rw[show ((K:Nat):Int).toNat=K by omega]at hl2;have gj:=Zg9 hl1;have gje:=Y5 gj;have hjl:=Zhl Q.J;have hrl:=ZgN l;have hr0:=Zfy l;have hr1:=ZhL l;have gr:=Zhp hl2;have gre:=Y5 gr;have hxJ:x<Q.J.length:=(by omega);have hKl:K<l.length:=(by omega);have h60:d60 [.int .u64 (wAt W.ws i)] []=some (rcA (Vn (wAt W.ws i))):=(by simp only[d60];rw[if_pos hb]);obtain ⟨⟨ck,cf,cg,cl,cx,cy⟩,hss⟩:∃ s,Vn (wAt W.ws i)=s:=⟨_,rfl⟩;rw[hss]at h60 gr gre;simp only[rcA,rcL]at h60 gr gre;simp only[qzC]at h61;simp only[JA,qzC,wzC]
        as_aux_lemma =>
         repeat' with_reducible (first|refine ZR.h ?_|refine kI ?_|((first|refine kR hE ?_|refine kD hE Zq ?_);intro K hK;simp[hS0,hS1,hT0,hT1,hJ0,hJ1,hL0,hL1,hT,hC,hTl,hCl,hpt,hpc,hiL,hiW,hL,hpl,hxJ,hKl,hjl,hrl,hr0,hr1,row,rowe,hat.1,hate,h60,h61,gj,gje,gr,gre,wk1,d57];(repeat' (first|refine hK _ _ ?_|apply And.intro|(intro hc;try subst hc)))<;>(try clear hK K))|(refine kT (fun hc=>?_) (fun hc=>?_)<;>simp at hc<;>(try subst hc)))
         all_goals try (show Zb _ _=true;kernel_rfl)
         all_goals refine ⟨i+1,hiL,Nat.sub_lt_sub_left hiL (Nat.lt_succ_self i),?_⟩
         all_goals rw[hS]
         all_goals simp only[JA,qzC,wzC]
         all_goals (refine Imp.aut ?_ ?_<;>simp[NLe,XL,hS0,hS1,hT0,hT1,hJ0,hJ1,hL0,hL1,hT,hC,hTl,hCl,hpt,hpc])
      ·have hie:i=L:=by omega
       subst hie;simp only[JA,qzC,wzC]
       repeat' with_reducible (first|refine ZR.h ?_|refine kI ?_|((first|refine kR hE ?_|refine kD hE Zq ?_);intro K hK;simp[hS0,hS1,hT0,hT1,hJ0,hJ1,hL0,hL1,hT,hC,hTl,hCl,hpt,hpc,d57];(repeat' (first|refine hK _ _ ?_|apply And.intro|(intro hc;try subst hc)))<;>(try clear hK K))|(refine kT (fun hc=>?_) (fun hc=>?_)<;>simp at hc<;>(try subst hc)))
       all_goals try (show Zb _ _=true;kernel_rfl)
       all_goals (refine kL (fun j=>JB W Q W.lg.length j) (fun j=>j≤W.lg.length) (fun j=>W.lg.length - j) 0 (Nat.zero_le _) ?_ ?_)
       ·as_aux_lemma =>
         simp only[JB,wzC,qzC]
         rw[hS]
         (refine Imp.aut ?_ ?_<;>simp[NLe,XL,hS0,hS1,hT0,hT1,hJ0,hJ1,hL0,hL1,hT,hC,hTl,hCl])
       ·as_aux_lemma =>
         intro j hj
         replace hj:j≤W.lg.length:=hj
         by_cases hjL:j<W.lg.length
         ·have wk1:IntKind.wrap .i64 ((j:Int)+1)=(j:Int)+1:=Zg (by omega) (by omega)
          obtain ⟨r,hr⟩:∃ r,W.lg[j]?=some r:=⟨_,List.getElem?_eq_getElem hjL⟩;have hrr:=List.all_eq_true.1 hlg r (List.mem_of_getElem? hr);have hr2:Q.lg[j]?=some r:=(by rw[hlgE];exact hr);have hjQ:j<Q.lg.length:=(by rw[hlgE];exact hjL);obtain ⟨x0,x1,x2,x3,x4,x5,x6,x7,x8,x9,xa,xb,xc,xd,rfl⟩:=Zfc hrr;have hre:=Y5 hr;have hr2e:=Y5 hr2;simp only[JB,qzC,wzC]
          as_aux_lemma =>
           repeat' with_reducible (first|refine ZR.h ?_|refine kI ?_|((first|refine kR hE ?_|refine kD hE Zq ?_);intro K hK;simp[hS0,hS1,hT0,hT1,hJ0,hJ1,hL0,hL1,hT,hC,hTl,hCl,hjL,hjQ,hr,hre,hr2,hr2e,wk1,d57];(repeat' (first|refine hK _ _ ?_|apply And.intro|(intro hc;try subst hc)))<;>(try clear hK K))|(refine kT (fun hc=>?_) (fun hc=>?_)<;>simp at hc<;>(try subst hc)))
           all_goals try (show Zb _ _=true;kernel_rfl)
           all_goals refine ⟨j+1,hjL,Nat.sub_lt_sub_left hjL (Nat.lt_succ_self j),?_⟩
           all_goals rw[hS]
           all_goals simp only[JB,qzC,wzC]
           all_goals (refine Imp.aut ?_ ?_<;>simp[NLe,XL,hS0,hS1,hT0,hT1,hJ0,hJ1,hL0,hL1,hT,hC,hTl,hCl])
         ·have hje:j=W.lg.length:=by omega
          subst hje;simp only[JB,qzC,wzC]
          as_aux_lemma =>
           repeat' with_reducible (first|refine ZR.h ?_|refine kI ?_|((first|refine kR hE ?_|refine kD hE Zq ?_);intro K hK;simp[hS0,hS1,hT0,hT1,hJ0,hJ1,hL0,hL1,hT,hC,hTl,hCl,d57];(repeat' (first|refine hK _ _ ?_|apply And.intro|(intro hc;try subst hc)))<;>(try clear hK K))|(refine kT (fun hc=>?_) (fun hc=>?_)<;>simp at hc<;>(try subst hc)))
           all_goals try (show Zb _ _=true;kernel_rfl)
           all_goals (try simp)
           all_goals (refine Imp.aut ?_ ?_<;>simp[NLe,XL,hS0,hS1,hT0,hT1,hJ0,hJ1,hL0,hL1,hT,hC,hTl,hCl])
   ·cases h
  ·cases h
 ·cases h
theorem e15 {W:WZ} {Q:QZ} (h:Sim W Q) (h1:smW W=true) (h2:smQ Q=true) (u v:Nat):d15 [.op u (wzC W),.op v (qzC Q)]=some ⟨.bool true,[.cells 0 (wzC W),.cells 0 (qzC Q)]⟩:=by
 simp only[d15,show yF (wzC W)=some W from rfl,V6];rw[if_pos ⟨h,h1,h2⟩]
end Go.W
