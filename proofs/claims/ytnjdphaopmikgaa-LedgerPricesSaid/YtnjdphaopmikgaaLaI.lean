/- A good event: the model takes it, and what the ledger comes to by it. An order that nobody submitted; numbers of the orders that there are. -/
import Derived.Test.YtnjdphaopmikgaaLaR
import Derived.Test.YtnjdphaopmikgaaLrN
namespace Go.W
open Go.Proofs
set_option linter.unusedSimpArgs false
set_option linter.unusedVariables false
set_option maxHeartbeats 8000000
attribute [local irreducible] Wm
attribute [local simp] Yu lkp Ui prs Th prT ddL idL Yn U1 Ren Vz NObj.none ZZ
def upR (R:List (List R5)) (p n:Nat) (d:R5):List (List R5):=match R[p]? with
 | some r=>(match r[n]? with
  | some v=>R.set p (r.set n (add5 v d))
  | none=>R)
 | none=>R
def upL (Q:List (List Int)) (n:Nat) (x:Int):List (List Int):=match Q[n]? with
 | some l=>Q.set n (l++[x])
 | none=>Q
def xP (x y:OrZ):OrZ:=if x.t.sd=1 then y else x
def V9 (x y:OrZ):OrZ:=if x.t.sd=1 then x else y
def buyD (e:EvZ):R5:=⟨e.q,0,e.q*e.p,0,1⟩
def Zev (e:EvZ):R5:=⟨0,e.q,0,e.q*e.p,1⟩
def xE (Z:LgZ) (x y:OrZ) (e:EvZ):LgZ:={ Z with rows:=upR (upR Z.rows (Xw Z.a Z.b (xP x y).c).toNat x.t.nm.toNat (buyD e)) (Xw Z.a Z.b (V9 x y).c).toNat x.t.nm.toNat (Zev e),last:=upL Z.last x.t.nm.toNat e.p }
structure FilOK (Z:LgZ) (M:MdZ) (x y:OrZ) (e:EvZ):Prop where
 n:M.os.length≤100000
 cfg:VA Z.a Z.b Z.c Z.d Z.e Z.f Z.g=true
 q:0≤e.q∧e.q≤10000
 p:0≤e.p∧e.p≤10000
 o1:0≤Xw Z.a Z.b (xP x y).c
 o2:0≤Xw Z.a Z.b (V9 x y).c
 ne:Xw Z.a Z.b (xP x y).c≠Xw Z.a Z.b (V9 x y).c
 nm:0≤x.t.nm
 r1:∃ r v,Z.rows[(Xw Z.a Z.b (xP x y).c).toNat]?=some r∧r[x.t.nm.toNat]?=some v∧bnd 1000 v
 r2:∃ r v,Z.rows[(Xw Z.a Z.b (V9 x y).c).toNat]?=some r∧r[x.t.nm.toNat]?=some v∧bnd 1000 v
 l:∃ l,Z.last[x.t.nm.toNat]?=some l∧l.length≤100000
open Classical in
noncomputable def d22:List AV→Option Ans
 | [.op _ lc,.op _ mc,.agg ec]=>(match ZaM lc,zE mc,YO ec with
  | some Z,some M,some e=>(match ZC e.c e.g M.os,ZC e.o e.w M.os with
   | some i,some j=>(match M.os[i]?,M.os[j]? with
    | some x,some y=>if FilOK Z M x y e then some ⟨.tup [],[.cells 0 (lgC (xE Z x y e)),.free]⟩ else none
    | _,_=>none)
   | _,_=>none)
  | _,_,_=>none)
 | _=>none
theorem ok22:NOk [(9,true),(9,false)] d22:=by
 intro xs aa h;unfold d22 at h;split at h
 ·split at h
  ·rename_i Z M e hz hm he
   obtain rfl:=Yv hz;obtain rfl:=ZA hm;obtain rfl:=ZD he
   (repeat' (split at h))<;>first|(cases h;done)|(injection h with h;subst h;refine ⟨Zz ?_,?_⟩<;>simp[Vv,Vt,Uu,UG,evR])
  ·cases h
 ·cases h
theorem mul_b {q p:Int} (h1:0≤q) (h2:q≤10000) (h3:0≤p) (h4:p≤10000):0≤q*p∧q*p≤100000000:=vX h1 h2 h3 h4
theorem xW {v d:R5} (h:bnd 1000 v) (d1:0≤d.b∧d.b≤100000000∧0≤d.s∧d.s≤100000000∧0≤d.p∧d.p≤100000000∧0≤d.g∧d.g≤100000000∧0≤d.n∧d.n≤100000000):wr5 (add5 v d)=add5 v d:=by
 obtain ⟨g1,g2,g3,g4,g5,g6,g7,g8,g9,g10⟩:=h;unfold wr5 add5;simp only;rw[Zh (by omega) (by omega),Zh (by omega) (by omega),Zh (by omega) (by omega),Zh (by omega) (by omega),Zh (by omega) (by omega)]
theorem vy {R:List (List R5)} {p n:Nat} {r:List R5} {v:R5} (h1:R[p]?=some r) (h2:r[n]?=some v) (d:R5):upR R p n d=R.set p (r.set n (add5 v d)):=by unfold upR;rw[h1];simp only[h2]
theorem yA {c g:Int} {os:List OrZ} {i:Nat} {x:OrZ} (h1:ZC c g os=some i) (h2:os[i]?=some x):ZbU c g os=.tup [.agg (orC x),.bool true]:=by unfold ZbU;rw[h1];simp only[h2]
theorem s22:Sound Try.prog 22 (Zw [(9,true),(9,false)] d22 ok22):=by
 refine Zm C22.a C22.b C22.c C22.d ok22 (fun xs a h=>?_) fun xs a h w0 S hS=>?_
 ·unfold d22 at h
  (repeat' (split at h))<;>first|(cases h;done)|exact Nat.le_of_ble_eq_true rfl
 unfold d22 at h;split at h
 ·rename_i u lc u2 mc ec
  split at h
  ·rename_i Z M e hZ hM he
   obtain rfl:=Yv hZ;obtain rfl:=ZA hM;obtain rfl:=ZD he;clear hM he hZ;split at h
   ·rename_i i j hi hj
    split at h
    ·rename_i x y hx hy
     split at h
     ·rename_i hok
      injection h with h;subst h;obtain ⟨hn,hcfg,⟨hq0,hq1⟩,⟨hp0,hp1⟩,ho1,ho2,hne,hnm,⟨r1,v1,hr1,hv1,hb1⟩,⟨r2,v2,hr2,hv2,hb2⟩,⟨ls,hls,hlsl⟩⟩:=hok;have hE:Zd Try.prog (EL [(36,Zw [(9,false)] d36 ok36),(37,rdS d37 ok37),(38,rdS d38 ok38)]):=Zf (by simp only[List.mem_cons,List.not_mem_nil,or_false,forall_eq_or_imp,forall_eq];exact ⟨s36,s37,s38⟩);have hTm:=ZP M.os;have hCm:=ZO M.os;have h36a:∀ u,d36 [.op u (mdC M),.int .i64 e.c,.int .i64 e.g]=some ⟨.tup [.agg (orC x),.bool true],[.free]⟩:=fun u=>by
       simp only[d36,Yh];rw[if_pos hn,yA hi hx]
      have h36b:∀ u,d36 [.op u (mdC M),.int .i64 e.o,.int .i64 e.w]=some ⟨.tup [.agg (orC y),.bool true],[.free]⟩:=fun u=>by
       simp only[d36,Yh];rw[if_pos hn,yA hj hy]
      obtain ⟨a,b,c,d,e1,f,g,R,Q⟩:=Z;simp only at hcfg ho1 ho2 hne hr1 hr2 hls;obtain ⟨p1,hp1'⟩:∃ p:Nat,Xw a b (xP x y).c=(p:Int):=⟨_,(Int.toNat_of_nonneg ho1).symm⟩;obtain ⟨p2,hp2'⟩:∃ p:Nat,Xw a b (V9 x y).c=(p:Int):=⟨_,(Int.toNat_of_nonneg ho2).symm⟩;obtain ⟨n,hn'⟩:∃ n:Nat,x.t.nm=(n:Int):=⟨_,(Int.toNat_of_nonneg hnm).symm⟩;obtain ⟨m,hm⟩:∃ m,e.q*e.p=m:=⟨_,rfl⟩;have hmb:=mul_b hq0 hq1 hp0 hp1;rw[hm]at hmb;have wm:IntKind.wrap .i64 m=m:=Zh (by omega) (by omega);rw[hp1',Int.toNat_natCast]at hr1;rw[hp2',Int.toNat_natCast]at hr2;rw[hn',Int.toNat_natCast]at hls hv1 hv2;rw[hp1',hp2']at hne;have hp12:p1≠p2:=fun q=>hne (by rw[q]);have hp21:p2≠p1:=fun q=>hp12 q.symm;obtain ⟨v1',hv1'⟩:∃ v,add5 v1 ⟨e.q,0,m,0,1⟩=v:=⟨_,rfl⟩;obtain ⟨v2',hv2'⟩:∃ v,add5 v2 ⟨0,e.q,0,m,1⟩=v:=⟨_,rfl⟩;have h38a:d38 [.agg (r5C v1),.agg [.int .i64 e.q,.int .i64 0,.int .i64 m,.int .i64 0,.int .i64 1]] []=some (.agg (r5C v1')):=by
       rw[← hv1',← xW hb1 (d:=⟨e.q,0,m,0,1⟩) (by simp only;omega)];rfl
      have h38b:d38 [.agg (r5C v2),.agg [.int .i64 0,.int .i64 e.q,.int .i64 0,.int .i64 m,.int .i64 1]] []=some (.agg (r5C v2')):=by
       rw[← hv2',← xW hb2 (d:=⟨0,e.q,0,m,1⟩) (by simp only;omega)];rfl
      have hfin:xE ⟨a,b,c,d,e1,f,g,R,Q⟩ x y e=⟨a,b,c,d,e1,f,g,(R.set p1 (r1.set n v1')).set p2 (r2.set n v2'),Q.set n (ls++[e.p])⟩:=by
       have k1:(R.set p1 (r1.set n v1'))[p2]?=some r2:=(by rw[List.getElem?_set_ne hp12];exact hr2);unfold xE buyD Zev upL;simp only[hp1',hp2',hn',Int.toNat_natCast,hm,hls];rw[vy hr1 hv1,hv1',vy k1 hv2,hv2']
      rw[hfin];obtain ⟨R1,hR1⟩:∃ R1,R1=R.set p1 (r1.set n v1'):=⟨_,rfl⟩;obtain ⟨R2,hR2⟩:∃ R2,R2=R1.set p2 (r2.set n v2'):=⟨_,rfl⟩;obtain ⟨Q1,hQ1⟩:∃ Q1,Q1=Q.set n (ls++[e.p]):=⟨_,rfl⟩;have hr2':R1[p2]?=some r2:=(by rw[hR1,List.getElem?_set_ne hp12];exact hr2);have q1:=Zb4 r1 n v1';have q2:=ZbW R p1 (r1.set n v1');have q3:=Zb4 r2 n v2';have q4:=ZbW R1 p2 (r2.set n v2');have q5:=ZdV Q n (ls++[e.p]);have q6:=Zb7 ls e.p;rw[← hR1]at q2;rw[← hR2]at q4;rw[← hQ1]at q5;rw[← hR1,← hR2,← hQ1];obtain ⟨ga,gb⟩:=Zde hr1;obtain ⟨gc,gd⟩:=ZcJ hv1;obtain ⟨ge,gf⟩:=Zde hr2';obtain ⟨gg,gh⟩:=ZcJ hv2;obtain ⟨gi,gj⟩:=Zdu hls;simp only[lsC]at gi gj;have z1:=Ub R;have z2:=V8 R;have z3:=Ub R1;have z4:=V8 R1;have z5':=Ub R2;have z6:=V8 R2;have z7:=UZ Q;have z8:=UI Q;have z9:=UZ Q1;have z10:=UI Q1;have y1:=zz r1;have y2:=zV r1;have y3:=zz r2;have y4:=zV r2;have y5:=YT ls;have y6:=YV ls;have y7:=zz (r1.set n v1');have y8:=zV (r1.set n v1');have y9:=zz (r2.set n v2');have y10:=zV (r2.set n v2');have y11:=YT (ls++[e.p]);have y12:=YV (ls++[e.p]);have l1:=XE R;have l2:=XE R1;have l3:=yr r1;have l4:=yr r2;have l5:=X6 Q;have l6:=X7 ls;have l7:R1.length=R.length:=(by rw[hR1,List.length_set]);have k1:p1<R.length:=(List.getElem?_eq_some_iff.1 hr1).1;have k2:p2<R.length:=(List.getElem?_eq_some_iff.1 hr2).1;have k3:n<r1.length:=(List.getElem?_eq_some_iff.1 hv1).1;have k4:n<r2.length:=(List.getElem?_eq_some_iff.1 hv2).1
      have k5:n<Q.length:=(List.getElem?_eq_some_iff.1 hls).1;have b1:(ls.length+1)*8≤140737488355328:=(by omega);have b2:ls.length≤9223372036854775806:=(by omega);have tl1:∀ q,0<q→V4 q (ZY ls)=true:=fun q _=>Zc0 q ls;obtain ⟨QQ,hQQ⟩:∃ q,q=(YY Q).set n [.sl (.top 2) 0 (ZY ls).length]:=⟨_,rfl⟩;have hQQ0:(YY Q).set n (((YY Q).getD n []).set 0 (.sl (.top 2) 0 (ZY ls).length))=QQ:=by
       rw[List.getD_eq_getElem?_getD,gi,Option.getD_some,hQQ];rfl
      have hQg:QQ[n]?=some [.sl (.top 2) 0 ls.length]:=(by rw[hQQ,List.getElem?_set_self (by rw[l5];exact k5),l6]);have hQh:∀ hk,QQ[n]'hk=[.sl (.top 2) 0 ls.length]:=fun hk=>by
       have e:=hQg;rw[List.getElem?_eq_getElem hk]at e;exact Option.some.inj e
      have hQl:QQ.length=Q.length:=(by rw[hQQ,List.length_set,l5]);have hQs:∀ x y:List AV,(QQ.set n x).set n y=(YY Q).set n y:=fun x y=>by rw[hQQ,List.set_set,List.set_set]
      have hQr:∀ x:List AV,(QQ.set n x)[n]?=some x:=fun x=>List.getElem?_set_self (by rw[hQl];exact k5);clear hQQ;have hlen2:(ZY (ls++[e.p])).length=ls.length+1:=(by rw[X7,List.length_append];rfl);clear hR1 hR2 hQ1 hfin hr1 hr2 hv1 hv2 hls hr2' hb1 hb2 hv1' hv2' hi hj hx hy;simp only[rwC,lsC,r5C,inC]at q5 q6 ga gb gc gd ge gf gg gh q1 q2 q3 q4 h38a h38b;by_cases hsd:x.t.sd=1
      ·have hB:xP x y=y:=by unfold xP;rw[if_pos hsd]
       have hS':V9 x y=x:=(by unfold V9;rw[if_pos hsd]);have h37a:d37 [.agg [.int .i64 a,.int .i64 b,.int .i64 c,.int .i64 d,.int .i64 e1,.int .i64 f,.int .i64 g],.int .i64 y.c] []=some (.int .i64 (p1:Int)):=by
        simp only[d37];rw[if_pos hcfg,← hB,hp1']
       have h37b:d37 [.agg [.int .i64 a,.int .i64 b,.int .i64 c,.int .i64 d,.int .i64 e1,.int .i64 f,.int .i64 g],.int .i64 x.c] []=some (.int .i64 (p2:Int)):=by
        simp only[d37];rw[if_pos hcfg,← hS',hp2']
       clear hB hS' hp1' hp2' hne ho1 ho2;simp only[orC,hn']at h36a h36b;simp only[hsd]at h36a h36b;simp only[mdC,lgC,evR]at hS h36a h36b⊢;refine Xv (Imp.release (.sub (.top 0) 0 0 8) n 0 (t:=0) (sz:=1) (els:=ZY ls) (by rfl) gi (by rfl)) ?_;change Wm _ _ _ _ _ _ ⟨[(0,.ptr (.top 0) 0 0),(1,.ptr (.top 1) 0 0),(2,.agg [.int .i64 e.k,.int .i64 e.c,.int .i64 e.g,.int .i64 e.o,.int .i64 e.w,.int .i64 e.t.nm,.int .i64 e.t.sd,.int .i64 e.t.pr,.int .i64 e.t.le,.int .i64 e.t.un,.int .i64 e.q,.int .i64 e.p,.int .i64 e.tk,.int .i64 e.e])],[(0,.cells 0 [.int .i64 a,.int .i64 b,.int .i64 c,.int .i64 d,.int .i64 e1,.int .i64 f,.int .i64 g,.os 0 1 (Vb R),.os 0 1 ((YY Q).set n (((YY Q).getD n []).set 0 (.sl (.top 2) 0 (ZY ls).length)))]),(2,.arr 0 1 (ZY ls)),(0,.cells 0 [.int .i64 a,.int .i64 b,.int .i64 c,.int .i64 d,.int .i64 e1,.int .i64 f,.int .i64 g,.os 0 1 (Vb R),.os 0 1 (YY Q)]),(1,.view 0 9 [[.int .i64 M.a,.int .i64 M.b,.int .i64 M.c,.int .i64 M.d,.int .i64 M.e,.int .i64 M.f,.int .i64 M.g,.os 0 13 (YZ M.os),.int .i64 M.now]])],3⟩ _;rw[hQQ0];unfold m22
       repeat' with_reducible (first|refine ZR.h ?_|refine zI ?_|((first|refine zK hE ?_|refine zM hE ?_);intro K hK;simp[hTm,hCm,h36a,h36b,h37a,h37b,h38a,h38b,hsd,wm,hm,hp12,hp21,q1,q2,q3,q4,q5,q6,ga,gb,gc,gd,ge,gf,gg,gh,hQg,hQh,hQl,z1,z2,z3,z4,z5',z6,z7,z8,z9,z10,y1,y2,y3,y4,y5,y6,y7,y8,y9,y10,y11,y12,l1,l2,l3,l4,l5,l6,l7,k1,k2,k3,k4,k5,b1,b2,tl1];(repeat' (first|refine hK _ _ ?_|apply And.intro|(intro hc;try subst hc)))<;>(try clear hK K))|(refine zJ (fun hc=>?_) (fun hc=>?_)<;>simp at hc<;>(try subst hc)))
       all_goals first|omega|skip
       all_goals (try simp)
       all_goals (refine Imp.trans (Imp.absorb (.sub (.top 0) 0 0 8) n 0 947 (by rfl) (hQr _) (by rfl) (.inl ⟨0,1,ZY (ls++[e.p]),by simp[hlen2],by rfl⟩) (by simp)) ?_)
       all_goals (refine Imp.aut ?_ ?_<;>simp[NLe,Zg,Z5,Zx,hTm,hCm,z5',z6,z9,z10,q5,y11,y12,hQs,hQr])
      ·have hB:xP x y=x:=by unfold xP;rw[if_neg hsd]
       have hS':V9 x y=y:=(by unfold V9;rw[if_neg hsd]);have h37a:d37 [.agg [.int .i64 a,.int .i64 b,.int .i64 c,.int .i64 d,.int .i64 e1,.int .i64 f,.int .i64 g],.int .i64 x.c] []=some (.int .i64 (p1:Int)):=by
        simp only[d37];rw[if_pos hcfg,← hB,hp1']
       have h37b:d37 [.agg [.int .i64 a,.int .i64 b,.int .i64 c,.int .i64 d,.int .i64 e1,.int .i64 f,.int .i64 g],.int .i64 y.c] []=some (.int .i64 (p2:Int)):=by
        simp only[d37];rw[if_pos hcfg,← hS',hp2']
       clear hB hS' hp1' hp2' hne ho1 ho2;simp only[orC,hn']at h36a h36b
       skip
       simp only[mdC,lgC,evR]at hS h36a h36b⊢;refine Xv (Imp.release (.sub (.top 0) 0 0 8) n 0 (t:=0) (sz:=1) (els:=ZY ls) (by rfl) gi (by rfl)) ?_;change Wm _ _ _ _ _ _ ⟨[(0,.ptr (.top 0) 0 0),(1,.ptr (.top 1) 0 0),(2,.agg [.int .i64 e.k,.int .i64 e.c,.int .i64 e.g,.int .i64 e.o,.int .i64 e.w,.int .i64 e.t.nm,.int .i64 e.t.sd,.int .i64 e.t.pr,.int .i64 e.t.le,.int .i64 e.t.un,.int .i64 e.q,.int .i64 e.p,.int .i64 e.tk,.int .i64 e.e])],[(0,.cells 0 [.int .i64 a,.int .i64 b,.int .i64 c,.int .i64 d,.int .i64 e1,.int .i64 f,.int .i64 g,.os 0 1 (Vb R),.os 0 1 ((YY Q).set n (((YY Q).getD n []).set 0 (.sl (.top 2) 0 (ZY ls).length)))]),(2,.arr 0 1 (ZY ls)),(0,.cells 0 [.int .i64 a,.int .i64 b,.int .i64 c,.int .i64 d,.int .i64 e1,.int .i64 f,.int .i64 g,.os 0 1 (Vb R),.os 0 1 (YY Q)]),(1,.view 0 9 [[.int .i64 M.a,.int .i64 M.b,.int .i64 M.c,.int .i64 M.d,.int .i64 M.e,.int .i64 M.f,.int .i64 M.g,.os 0 13 (YZ M.os),.int .i64 M.now]])],3⟩ _;rw[hQQ0];unfold m22
       repeat' with_reducible (first|refine ZR.h ?_|refine zI ?_|((first|refine zK hE ?_|refine zM hE ?_);intro K hK;simp[hTm,hCm,h36a,h36b,h37a,h37b,h38a,h38b,hsd,wm,hm,hp12,hp21,q1,q2,q3,q4,q5,q6,ga,gb,gc,gd,ge,gf,gg,gh,hQg,hQh,hQl,z1,z2,z3,z4,z5',z6,z7,z8,z9,z10,y1,y2,y3,y4,y5,y6,y7,y8,y9,y10,y11,y12,l1,l2,l3,l4,l5,l6,l7,k1,k2,k3,k4,k5,b1,b2,tl1];(repeat' (first|refine hK _ _ ?_|apply And.intro|(intro hc;try subst hc)))<;>(try clear hK K))|(refine zJ (fun hc=>?_) (fun hc=>?_)<;>simp at hc<;>(try subst hc)))
       all_goals first|omega|skip
       all_goals (try simp)
       all_goals (refine Imp.trans (Imp.absorb (.sub (.top 0) 0 0 8) n 0 915 (by rfl) (hQr _) (by rfl) (.inl ⟨0,1,ZY (ls++[e.p]),by simp[hlen2],by rfl⟩) (by simp)) ?_)
       all_goals (refine Imp.aut ?_ ?_<;>simp[NLe,Zg,Z5,Zx,hTm,hCm,z5',z6,z9,z10,q5,y11,y12,hQs,hQr])
     ·cases h
    ·cases h
   ·cases h
  ·cases h
 ·cases h
end Go.W
namespace Go.W
open Go.Proofs
set_option linter.unusedSimpArgs false
set_option linter.unusedVariables false
set_option maxHeartbeats 8000000
def cfC (a b c f g:Int):CfE:=⟨a*b,b,c,f,g⟩
section
variable {a b c d e1 f g:Int}
theorem Xz (h:VA a b c d e1 f g=true):yI (cfC a b c f g):=by
 have h1:=YF h;have h2:=XU h;unfold yI cfC;simp only;omega
theorem zl {x:Int} (h0:0≤x) (h1:x<a*b):Xw a b x=x / b:=by
 unfold Xw;rw[if_neg (by omega),if_pos h1]
theorem Uz (h:VA a b c d e1 f g=true) {x:Int} (h0:0≤x) (h1:x<a*b):0≤x / b∧x / b<a:=by
 have h2:=YF h;refine ⟨Int.ediv_nonneg h0 (by omega),?_⟩;exact Int.ediv_lt_of_lt_mul (by omega) h1
end
section
variable {a b c d e1 f g now:Int} {L:List EvZ} {os:List OrZ} {e:EvZ} {C:CfE}
theorem can_k (h:ZE C L e=0) {x:OrZ} (hx:ofL C.F e.c e.g L=(x,true)) (hk:3≤e.k):(e.k=3→byO C.F x=0∧x.a=false)∧(e.k=4→x.a=false)∧(e.k=5→x.t.un≤e.tk∧byO C.F x=0∧x.a=false)∧(e.k=6→x.r=false)∧(e.k=7→(byO C.F x=0∧x.a=true∧e.e=6)∨(byO C.F x≠0∧byO C.F x=e.e)):=by
 have h0:=UY h;have hl:=xI h (by omega);unfold ZE at h;rw[if_neg (by omega),if_neg (by omega),if_neg (by omega),if_neg (fun x=>x hl),if_neg (by omega)]at h;rw[hx]at h;simp only at h;have ba:∀ y:Bool,¬ y=true→y=false:=fun y hy=>by cases y<;>simp_all
 by_cases k3:e.k=3
 ·rw[if_pos k3]at h
  by_cases q:byO C.F x≠0∨x.a=true
  ·rw[if_pos q]at h;omega
  ·exact ⟨fun _=>⟨by omega,ba _ fun hh=>q (.inr hh)⟩,fun hh=>by omega,fun hh=>by omega,fun hh=>by omega,fun hh=>by omega⟩
 rw[if_neg k3]at h;by_cases k4:e.k=4
 ·rw[if_pos k4]at h
  by_cases q:x.a=true
  ·rw[if_pos q]at h;omega
  ·exact ⟨fun hh=>by omega,fun _=>ba _ q,fun hh=>by omega,fun hh=>by omega,fun hh=>by omega⟩
 rw[if_neg k4]at h;by_cases k5:e.k=5
 ·rw[if_pos k5]at h
  by_cases q:e.tk<x.t.un∨byO C.F x≠0∨x.a=true
  ·rw[if_pos q]at h;omega
  ·exact ⟨fun hh=>by omega,fun hh=>by omega,fun _=>⟨by omega,by omega,ba _ fun hh=>q (.inr (.inr hh))⟩,fun hh=>by omega,fun hh=>by omega⟩
 rw[if_neg k5]at h;by_cases k6:e.k=6
 ·rw[if_pos k6]at h
  by_cases q:x.r=true
  ·rw[if_pos q]at h;omega
  ·exact ⟨fun hh=>by omega,fun hh=>by omega,fun hh=>by omega,fun _=>ba _ q,fun hh=>by omega⟩
 rw[if_neg k6]at h;refine ⟨fun hh=>by omega,fun hh=>by omega,fun hh=>by omega,fun hh=>by omega,fun _=>?_⟩;by_cases q:byO C.F x=0∧x.a=true
 ·rw[if_pos q]at h
  by_cases q2:(6:Int)=0∨(6:Int)≠e.e
  ·rw[if_pos q2]at h;omega
  ·exact .inl ⟨q.1,q.2,by omega⟩
 ·rw[if_neg q]at h
  by_cases q2:byO C.F x=0∨byO C.F x≠e.e
  ·rw[if_pos q2]at h;omega
  ·exact .inr ⟨by omega,by omega⟩
theorem do_ok (hcf:VA a b c d e1 f g=true) (h:InvL (cfC a b c f g) L os) (hc:ZE (cfC a b c f g) L e=0) (hn:os.length≤100000):doX ⟨a,b,c,d,e1,f,g,os,now⟩ e=some (doZ f os e):=by
 have h0:=UY hc;have hcx:=YF hcf;unfold doX;by_cases k1:e.k=1
 ·rw[if_pos k1]
  obtain ⟨c1,c2,c3,c4,c5,c6⟩:=Zeh hc k1;have hg:=h.gen e.c;have hl:=yS (c:=e.c) os;have hgen:Zd6 e.c os=some (Zq e.c L):=by
   unfold Zd6;cases hi:X3 e.c os with
   | none =>
    rw[hi]at hl;simp only at hl;unfold zu at hg;rw[hl]at hg;rw[hg]
   | some i =>
    rw[hi]at hl;obtain ⟨o,o1,o2⟩:=hl;unfold zu at hg;rw[o2]at hg;simp only at hg⊢;rw[o1];simp only;obtain ⟨m1,m2⟩:=Vn o2;have ho:=h.of o m1;rw[m2,← hg]at ho;have:=h.ok o m1;have g1:=this.2.2.1;rw[if_neg,hg];intro he;refine c3 ⟨by omega,?_⟩;rw[ho];exact he
  unfold subX;simp only[hgen];have c2':e.c<a*b:=c2;have c4':Zq e.c L<g:=c4;have hz:=vT h e.c;rw[if_pos ⟨hn,hcf,by rw[zl c1 c2'];exact (Uz hcf c1 c2').1,c4',c5,by omega,c6⟩];unfold doZ;rw[if_pos k1]
 rw[if_neg k1];by_cases k2:e.k=2
 ·rw[if_pos k2]
  obtain ⟨i,x,j,y,a1,a2,a3,a4,a5,a6,b1,b2,b3,b4,b5,b6,d1,d2,d3,d4,d5,d6,hij⟩:=Uv h hc k2;have ox:=h.ok x (List.mem_of_getElem? a2);have oy:=h.ok y (List.mem_of_getElem? b2);obtain ⟨z1,z2,z3,z4,z5,z6,z7,z8,z9,z10,z11,z12,z13,z14,z15,z16⟩:=ox;obtain ⟨w1,w2,w3,w4,w5,w6,w7,w8,w9,w10,w11,w12,w13,w14,w15,w16⟩:=oy;have z2':x.c<a*b:=z2;have w2':y.c<a*b:=w2;have z16':x.f≤f:=z16;have w16':y.f≤f:=w16;unfold filX;simp only[a1,b1,a2,b2];rw[if_pos ⟨hn,a6,b6,decide_eq_true ⟨hcf,by simp only;rw[zl z1 z2',zl w1 w2'];exact d1,d2,d3,d4,⟨by omega,by omega,by omega,by omega⟩,by rw[d5],by rw[d5],d6,by omega,by omega,by omega,by omega,by omega,by omega⟩⟩];unfold doZ;rw[if_neg k1];simp only[a1,a2,b1,b2];rw[if_pos k2];rfl
 rw[if_neg k2];obtain ⟨i,x,a1,a2,a3,a4,a5,a6,a7⟩:=UF h (xI hc k1);have hd:doZ f os e=os.set i (XT x e):=by
  unfold doZ;rw[if_neg k1,a1];simp only;rw[a2];simp only;rw[if_neg k2]
 rw[hd];obtain ⟨q3,q4,q5,q6,q7⟩:=can_k hc a6 (by omega);have bo:∀ z,byO (cfC a b c f g).F z=UP f z:=fun _=>rfl;by_cases k3:e.k=3
 ·rw[if_pos k3]
  obtain ⟨r1,r2⟩:=q3 k3;rw[bo]at r1;unfold Zb2;simp only[a1,a2];rw[if_pos ⟨hn,a7,by simp[Zcz,k3,r1,r2]⟩];simp[yE,XT,k3]
 rw[if_neg k3];by_cases k5:e.k=5
 ·rw[if_pos k5]
  obtain ⟨r0,r1,r2⟩:=q5 k5;rw[bo]at r1;unfold Zb2;simp only[a1,a2];rw[if_pos ⟨hn,a7,by simp[Zcz,k5,r1,r2,r0]⟩];simp[yE,XT,k5]
 rw[if_neg k5];by_cases k7:e.k=7
 ·rw[if_pos k7]
  unfold Zb2;simp only[a1,a2];rw[if_pos ⟨hn,a7,by
   rcases q7 k7 with ⟨r0,r1,r2⟩ | ⟨r0,r1⟩
   ·rw[bo]at r0
    simp[Zcz,k7,r0,r1,r2]
   ·rw[bo]at r0 r1
    simp[Zcz,k7,r1];rw[r1]at r0;exact .inr r0⟩]
  simp[yE,XT,k7]
 rw[if_neg k7];by_cases k4:e.k=4
 ·rw[if_pos k4]
  have r1:=q4 k4;unfold Zdt;simp only[a1,a2];rw[if_pos ⟨hn,a7,by simp[Zdr,k4,r1]⟩];simp[Zdc,XT,k4]
 rw[if_neg k4];have k6:e.k=6:=by omega
 rw[if_pos k6];have r1:=q6 k6;unfold Zdt;simp only[a1,a2];rw[if_pos ⟨hn,a7,by simp[Zdr,k6,r1]⟩];simp[Zdc,XT,k6]
def mat (P N:Nat) (F:Nat→Nat→R5):List (List R5):=(List.range P).map fun p:Nat=>(List.range N).map fun n:Nat=>F p n
def Tj (C:CfE) (N:Nat) (L:List EvZ):List (List Int):=(List.range N).map fun n:Nat=>Zr C n L
def lgM (a b c d e1 f g:Int) (L:List EvZ):LgZ:=⟨a,b,c,d,e1,f,g,mat a.toNat c.toNat fun p n=>Ug (cfC a b c f g) p n L,Tj (cfC a b c f g) c.toNat L⟩
theorem ZT {α:Type} (F:Nat→α) {n k:Nat} (h:k<n):((List.range n).map F)[k]?=some (F k):=by
 rw[List.getElem?_map,List.getElem?_range h];rfl
theorem zx {α:Type} (F:Nat→α) (n k:Nat) (v:α):((List.range n).map F).set k v=(List.range n).map fun i=>if i=k then v else F i:=by
 apply List.ext_getElem?;intro i;rw[List.getElem?_set];by_cases hi:i<n
 ·rw[ZT _ hi]
  by_cases e:k=i
  ·subst e
   rw[if_pos rfl,if_pos (by rw[List.length_map,List.length_range];exact hi),ZT _ hi,if_pos rfl]
  ·rw[if_neg e,ZT _ hi,if_neg fun q=>e q.symm]
 ·have hg:∀ G:Nat→α,((List.range n).map G)[i]?=none:=fun G=>List.getElem?_eq_none (by rw[List.length_map,List.length_range];omega)
  rw[hg,hg];split
  ·rename_i e
   rw[if_neg];subst e;rw[List.length_map,List.length_range];exact hi
  ·rfl
theorem Xn {α:Type} {F G:Nat→α} {n:Nat} (h:∀ i,i<n→F i=G i):(List.range n).map F=(List.range n).map G:=List.map_congr_left fun i hi=>h i (List.mem_range.1 hi)
theorem vu {P N p n:Nat} (hp:p<P) (hn:n<N) (F:Nat→Nat→R5) (dd:R5):upR (mat P N F) p n dd=mat P N fun i j=>if i=p∧j=n then add5 (F i j) dd else F i j:=by
 unfold mat;rw[vy (r:=(List.range N).map fun j:Nat=>F p j) (v:=F p n) (ZT (fun i:Nat=>(List.range N).map fun j:Nat=>F i j) hp) (ZT _ hn)];rw[zx,zx];refine Xn fun i hi=>?_;by_cases e:i=p
 ·rw[if_pos e]
  refine Xn fun j hj=>?_;by_cases e2:j=n
  ·show _=if i=p∧j=n then add5 (F i j) dd else F i j
   rw[if_pos e2,if_pos ⟨e,e2⟩,e,e2]
  ·show _=if i=p∧j=n then add5 (F i j) dd else F i j
   rw[if_neg e2,if_neg (fun q=>e2 q.2),e]
 ·rw[if_neg e]
  refine Xn fun j hj=>?_;show _=if i=p∧j=n then add5 (F i j) dd else F i j;rw[if_neg (fun q=>e q.1)]
theorem YQ {c g:Int}:∀ {os:List OrZ} {i:Nat} {x y:OrZ},os[i]?=some x→y.c=x.c→y.g=x.g→ZC c g (os.set i y)=ZC c g os
 | [],i,x,y,h,_,_=>by simp at h
 | o :: r,0,x,y,h,h1,h2=>by
  simp at h;subst h;have e:isO c g y=isO c g o:=by unfold isO;rw[h1,h2]
  simp only[ZC,List.set_cons_zero,List.findIdx?_cons,e]
 | o :: r,i+1,x,y,h,h1,h2=>by
  have ih:=YQ (c:=c) (g:=g) (os:=r) (i:=i) (x:=x) (y:=y) (by simpa using h) h1 h2;simp only[ZC]at ih;simp only[ZC,List.set_cons_succ,List.findIdx?_cons,ih]
theorem TC {m k:Nat} (h:m≤k) {r:R5} (hr:bnd m r):bnd k r:=by
 obtain ⟨g1,g2,g3,g4,g5,g6,g7,g8,g9,g10⟩:=hr;unfold bnd;omega
theorem ZaS (hcf:VA a b c d e1 f g=true) (h:OkL (cfC a b c f g) L os) (hc:ZE (cfC a b c f g) L e=0) (k:e.k=2) (hl:L.length≤1000) (hn:os.length≤100000) :
  ∃ i j x y,ZC e.c e.g (doZ f os e)=some i∧ZC e.o e.w (doZ f os e)=some j∧(doZ f os e)[i]?=some x∧(doZ f os e)[j]?=some y∧FilOK (lgM a b c d e1 f g L) ⟨a,b,c,d,e1,f,g,doZ f os e,now⟩ x y e∧xE (lgM a b c d e1 f g L) x y e=lgM a b c d e1 f g (L++[e]):=by
 have hC:=Xz hcf
 have hi:=YD hC h
 obtain ⟨f1,f2,f3,f4,f5,f6,f7,f8,f9,f10,f11,f12,f13⟩:=Xs hC hi hc k
 obtain ⟨i,x,j,y,a1,a2,a3,a4,a5,a6,b1,b2,b3,b4,b5,b6,d1,d2,d3,d4,d5,d6,hij⟩:=Uv hi hc k
 have hd:doZ f os e=(os.set i (Zt x e.q)).set j { Zt y e.q with e:=byO f (Zt y e.q) }:=by
  unfold doZ;rw[if_neg (by omega),a1];simp only;rw[a2];simp only;rw[if_pos k,b1];simp only;rw[b2]
 have hj2:(os.set i (Zt x e.q))[j]?=some y:=by rw[List.getElem?_set_ne hij];exact b2
 have hdl:(doZ f os e).length=os.length:=by rw[hd,List.length_set,List.length_set]
 obtain ⟨y',hy'⟩:∃ z,z={ Zt y e.q with e:=byO f (Zt y e.q) }:=⟨_,rfl⟩
 rw[← hy']at hd
 have yc:y'.c=y.c:=by rw[hy'];rfl
 have yg:y'.g=y.g:=by rw[hy'];rfl
 have yt:y'.t=y.t:=by rw[hy'];rfl
 clear hy'
 have hca:=YF hcf
 have f6':e.c<a*b:=f6
 have f8':e.o<a*b:=f8
 have o1:=Uz hcf f5 f6'
 have o2:=Uz hcf f7 f8'
 rw[a5]at f11
 rw[b5]at f11 f12
 have hnm:XD (cfC a b c f g) L e=x.t.nm:=by unfold XD;rw[a5]
 rw[hnm]at f9 f10 f12
 have f10':x.t.nm<c:=f10
 have f13':e.c / b≠e.o / b:=f13
 have hb:(xP (Zt x e.q) y').c=xa (cfC a b c f g) L e:=by
  unfold xP xa;rw[a5];show (if x.t.sd=1 then y' else Zt x e.q).c=if x.t.sd=1 then e.o else e.c;split
  ·rw[yc,b3]
  ·exact a3
 have hs:(V9 (Zt x e.q) y').c=zj (cfC a b c f g) L e:=by
  unfold V9 zj;rw[a5];show (if x.t.sd=1 then Zt x e.q else y').c=if x.t.sd=1 then e.c else e.o;split
  ·exact a3
  ·rw[yc,b3]
 have hbs:0≤xa (cfC a b c f g) L e∧xa (cfC a b c f g) L e<a*b∧0≤zj (cfC a b c f g) L e∧zj (cfC a b c f g) L e<a*b∧xa (cfC a b c f g) L e / b≠zj (cfC a b c f g) L e / b:=by
  unfold xa zj;split
  ·exact ⟨f7,f8',f5,f6',fun q=>f13' q.symm⟩
  ·exact ⟨f5,f6',f7,f8',f13'⟩
 obtain ⟨bc,hbc⟩:∃ z,xa (cfC a b c f g) L e=z:=⟨_,rfl⟩
 obtain ⟨sc,hsc⟩:∃ z,zj (cfC a b c f g) L e=z:=⟨_,rfl⟩
 rw[hbc]at hb hbs
 rw[hsc]at hs hbs
 obtain ⟨g1,g2,g3,g4,g5⟩:=hbs
 have p1:=Uz hcf g1 g2
 have p2:=Uz hcf g3 g4
 obtain ⟨P1,hP1⟩:∃ n:Nat,bc / b=n:=⟨_,(Int.toNat_of_nonneg p1.1).symm⟩
 obtain ⟨P2,hP2⟩:∃ n:Nat,sc / b=n:=⟨_,(Int.toNat_of_nonneg p2.1).symm⟩
 obtain ⟨N,hN⟩:∃ n:Nat,x.t.nm=n:=⟨_,(Int.toNat_of_nonneg f9).symm⟩
 have w1:Xw a b (xP (Zt x e.q) y').c=P1:=by rw[hb,zl g1 g2,hP1]
 have w2:Xw a b (V9 (Zt x e.q) y').c=P2:=by rw[hs,zl g3 g4,hP2]
 have hP1a:P1<a.toNat:=by omega
 have hP2a:P2<a.toNat:=by omega
 have hNc:N<c.toNat:=by omega
 have hsum:=TD hC N h
 refine ⟨i,j,Zt x e.q,y',?_,?_,?_,?_,?_,?_⟩
 ·rw[hd,YQ hj2 yc yg,YQ (y:=Zt x e.q) a2 rfl rfl];exact a1
 ·rw[hd,YQ hj2 yc yg,YQ (y:=Zt x e.q) a2 rfl rfl];exact b1
 ·rw[hd,List.getElem?_set_ne (fun q=>hij q.symm)]
  exact List.getElem?_set_self (List.getElem?_eq_some_iff.1 a2).1
 ·rw[hd]
  exact List.getElem?_set_self (by rw[List.length_set];exact (List.getElem?_eq_some_iff.1 b2).1)
 ·have hx:(Zt x e.q).t.nm=N:=hN
  refine ⟨by simp only[hdl];exact hn,hcf,⟨by omega,by omega⟩,⟨by omega,by omega⟩,?_,?_,?_,by rw[hx];omega,?_,?_,?_⟩
  ·show 0≤Xw a b _;rw[w1];omega
  ·show 0≤Xw a b _;rw[w2];omega
  ·show Xw a b _≠Xw a b _;rw[w1,w2,← hP1,← hP2];exact g5
  ·show ∃ r v,(mat a.toNat c.toNat _)[(Xw a b _).toNat]?=some r∧_
   rw[w1,hx,Int.toNat_natCast,Int.toNat_natCast];exact ⟨_,_,ZT _ hP1a,ZT _ hNc,TC hl (zR hC _ _ h)⟩
  ·show ∃ r v,(mat a.toNat c.toNat _)[(Xw a b _).toNat]?=some r∧_
   rw[w2,hx,Int.toNat_natCast,Int.toNat_natCast];exact ⟨_,_,ZT _ hP2a,ZT _ hNc,TC hl (zR hC _ _ h)⟩
  ·show ∃ l,(Tj _ c.toNat L)[_]?=some l∧_
   rw[hx,Int.toNat_natCast];exact ⟨_,ZT _ hNc,by omega⟩
 ·have hx:(Zt x e.q).t.nm.toNat=N:=by show x.t.nm.toNat=N;rw[hN];rfl
  unfold xE lgM;simp only[w1,w2,hx,Int.toNat_natCast];rw[vu hP1a hNc,vu hP2a hNc]
  congr 1
  ·unfold mat
   refine Xn fun p hp=>Xn fun n hn=>?_;show _=Ug (cfC a b c f g) (p:Int) (n:Int) (L++[e]);rw[VL];unfold ZbO Zae Zdx;rw[hnm,hbc,hsc,hN];show (if p=P2∧n=N then add5 (if p=P1∧n=N then _ else _) _ else if p=P1∧n=N then _ else _)=if e.k=2∧(N:Int)=n then (if sc / b=p then add5 (if bc / b=p then _ else _) _ else if bc / b=p then _ else _) else _;rw[hP1,hP2];by_cases en:n=N
   ·subst en
    rw[if_pos (⟨k,rfl⟩:e.k=2∧(n:Int)=n)];by_cases e2:p=P2
    ·have e1:¬ p=P1:=fun q=>g5 (by rw[hP1,hP2,← q,← e2])
     rw[if_pos ⟨e2,rfl⟩,if_neg (fun q=>e1 q.1),if_pos (by rw[e2]),if_neg (fun q:(P1:Int)=p=>e1 (by omega))]
     rfl
    ·rw[if_neg (fun q=>e2 q.1),if_neg (fun q:(P2:Int)=p=>e2 (by omega))]
     by_cases e1:p=P1
     ·rw[if_pos ⟨e1,rfl⟩,if_pos (by rw[e1])];rfl
     ·rw[if_neg (fun q=>e1 q.1),if_neg (fun q:(P1:Int)=p=>e1 (by omega))]
   ·rw[if_neg (fun q=>en q.2),if_neg (fun q=>en q.2),if_neg (fun q:e.k=2∧(N:Int)=n=>en (by omega))]
  ·unfold upL Tj
   rw[ZT (fun n:Nat=>Zr (cfC a b c f g) n L) hNc];simp only;rw[zx];refine Xn fun n hn=>?_;rw[XX,hnm,hN];by_cases en:n=N
   ·rw[if_pos en,if_pos ⟨k,by rw[en]⟩,en]
   ·rw[if_neg en,if_neg (fun q=>en (by omega))]
theorem vO (k:e.k≠2):lgM a b c d e1 f g (L++[e])=lgM a b c d e1 f g L:=by
 unfold lgM mat Tj
 congr 1
 ·refine Xn fun p hp=>Xn fun n hn=>?_
  show Ug (cfC a b c f g) (p:Int) (n:Int) (L++[e])=_;rw[VL];unfold ZbO;rw[if_neg (fun q=>k q.1)]
 ·refine Xn fun n hn=>?_
  rw[XX,if_neg (fun q=>k q.1)]
theorem led_0:lgM a b c d e1 f g []=⟨a,b,c,d,e1,f,g,eRw c.toNat a.toNat,eLs c.toNat⟩:=by
 unfold lgM mat Tj eRw eLs
 congr 1
 ·apply List.ext_getElem?
  intro i;by_cases hi:i<a.toNat
  ·rw[ZT _ hi,List.getElem?_replicate,if_pos hi]
   congr 1
   apply List.ext_getElem?;intro j;by_cases hj:j<c.toNat
   ·rw[ZT _ hj,List.getElem?_replicate,if_pos hj];rfl
   ·rw[List.getElem?_eq_none (by rw[List.length_map,List.length_range];omega),List.getElem?_eq_none (by rw[List.length_replicate];omega)]
  ·rw[List.getElem?_eq_none (by rw[List.length_map,List.length_range];omega),List.getElem?_eq_none (by rw[List.length_replicate];omega)]
 ·apply List.ext_getElem?
  intro j;by_cases hj:j<c.toNat
  ·rw[ZT _ hj,List.getElem?_replicate,if_pos hj];rfl
  ·rw[List.getElem?_eq_none (by rw[List.length_map,List.length_range];omega),List.getElem?_eq_none (by rw[List.length_replicate];omega)]
theorem ZcZ (F:Int) (os:List OrZ) (e:EvZ):(doZ F os e).length≤os.length+1:=by
 unfold doZ
 (repeat' split)<;>simp
theorem ZaE {os:List OrZ} (h:OkL C L os):os.length≤L.length:=by
 induction h with
 | nil=>exact Nat.le_refl _
 | @snoc L os e h1 h2 ih =>
  have:=ZcZ C.F os e;rw[List.length_append];simp only[List.length_cons,List.length_nil];omega
end
section
variable {C:CfE} {L:List EvZ} {os:List OrZ} {e:EvZ}
theorem ZaO {c g:Int} {os:List OrZ} (h:∀ o,o∈os→isO c g o=false):ZC c g os=none:=by
 unfold ZC;rw[List.findIdx?_eq_none_iff];exact h
theorem xS (o:OrZ) (e:EvZ):(XT o e).c=o.c∧(XT o e).g=o.g:=by
 unfold XT
 (repeat' split)<;>exact ⟨rfl,rfl⟩
theorem Zdm (hC:yI C) (h:OkL C L os):∀ c g:Int,ZC c g os=none→ofL C.F c g L=(o0,false):=by
 induction h with
 | nil=>intro c g _;rfl
 | @snoc L os e h1 hc ih =>
  intro c g hn;have hI:=YD hC h1;have h0:=UY hc;by_cases k1:e.k=1
  ·have hd:doZ C.F os e=os++[U0 e]:=by unfold doZ;rw[if_pos k1]
   rw[hd]at hn;have hno:=vU hn;have a1:=hno (U0 e) (List.mem_append_right _ (List.mem_singleton_self _));rw[XF,ih c g (ZaO fun o ho=>hno o (List.mem_append_left _ ho))];refine ZM (decide_eq_false fun q=>?_) (decide_eq_false fun q=>by omega) _;have:isO c g (U0 e)=true:=by
    unfold isO U0;simp[q.1,q.2]
   rw[a1]at this;cases this
  by_cases k2:e.k=2
  ·obtain ⟨i,x,j,y,a1,a2,a3,a4,a5,a6,b1,b2,b3,b4,b5,b6,d1,d2,d3,d4,d5,d6,hij⟩:=Uv hI hc k2
   have hd:doZ C.F os e=(os.set i (Zt x e.q)).set j { Zt y e.q with e:=byO C.F (Zt y e.q) }:=by
    unfold doZ;rw[if_neg (by omega),a1];simp only;rw[a2];simp only;rw[if_pos k2,b1];simp only;rw[b2]
   have hj2:(os.set i (Zt x e.q))[j]?=some y:=(by rw[List.getElem?_set_ne hij];exact b2);rw[hd,YQ (y:={ Zt y e.q with e:=byO C.F (Zt y e.q) }) hj2 rfl rfl,YQ (y:=Zt x e.q) a2 rfl rfl]at hn;rw[XF,ih c g hn];refine ZM (decide_eq_false fun q=>?_) (decide_eq_false fun q=>?_) _
   ·rw[q.1,q.2,hn]at a1;cases a1
   ·rw[q.2.1,q.2.2,hn]at b1;cases b1
  obtain ⟨i,x,a1,a2,a3,a4,a5,a6,a7⟩:=UF hI (xI hc k1);have hd:doZ C.F os e=os.set i (XT x e):=by
   unfold doZ;rw[if_neg k1,a1];simp only;rw[a2];simp only;rw[if_neg k2]
  rw[hd,YQ a2 (xS x e).1 (xS x e).2]at hn;rw[XF,ih c g hn];refine ZM (decide_eq_false fun q=>?_) (decide_eq_false fun q=>k2 q.1) _;rw[q.1,q.2,hn]at a1;cases a1
theorem vj (hC:yI C) (h:OkL C L os) (c g:Int):0≤(ofL C.F c g L).1.l∧(ofL C.F c g L).1.l≤9999∧0≤(ofL C.F c g L).1.f∧(ofL C.F c g L).1.f≤4∧0≤(ofL C.F c g L).1.c∧(ofL C.F c g L).1.c<24∧0≤(ofL C.F c g L).1.t.pr∧(ofL C.F c g L).1.t.pr≤9999∧((ofL C.F c g L).1.t.sd=0∨(ofL C.F c g L).1.t.sd=1):=by
 cases hf:ZC c g os with
 | none =>
  rw[Zdm hC h c g hf];simp[o0]
 | some i =>
  obtain ⟨x,h1,h2,h3⟩:=zS hf;have hI:=YD hC h;have hm:=List.mem_of_getElem? h1;have ho:=hI.of x hm;rw[h2,h3]at ho;rw[ho];have ok:=hI.ok x hm;unfold Zd3 at ok;unfold yI at hC;simp only;omega
end
end Go.W
