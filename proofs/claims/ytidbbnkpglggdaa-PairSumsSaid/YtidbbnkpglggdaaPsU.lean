/- A part of the proofs about the pair's laws (PsN, PsO, PsS, PsT, PsU). -/
import Derived.Test.YtidbbnkpglggdaaPsM
import Derived.Test.YtidbbnkpglggdaaPsR
import Derived.Test.YtidbbnkpglggdaaPqB
namespace Go.W
open Go.Proofs
set_option linter.unusedSimpArgs false
set_option linter.unusedVariables false
set_option maxHeartbeats 8000000
attribute [local irreducible] Wm
attribute [local simp] nmap lkp mkPl prs prsL prT ddL idL CRenL CRen Ren RenL NObj.none CRenLL
def loW (W:WZ):Bool:=decide (W.s≤100000000∧W.lg.length≤100000)
theorem loW_ex {W:WZ} (h:loW W=true):W.s≤100000000∧W.lg.length≤100000:=of_decide_eq_true h
def smW (W:WZ):Bool:=decide (W.s≤1000000∧W.lg.length≤50000)
theorem smW_ex {W:WZ} (h:smW W=true):W.s≤1000000∧W.lg.length≤50000:=of_decide_eq_true h
theorem smW_lo {W:WZ} (h:smW W=true):loW W=true:=by
 have:=smW_ex h
 exact decide_eq_true (by omega)
def tickW (W:WZ):WZ:={ W with s:=W.s+1 }
def putW (W:WZ) (i:Nat) (v:Int):WZ:={ W with ws:=W.ws.set i [.int .u64 v],s:=W.s+1 }
def sAt (W:WZ) (x:Int):Int:=wAt W.ws (2*x).toNat
def tAt (W:WZ) (x:Int):Int:=wAt W.ws (2*x+1).toNat
def turnW (W:WZ) (x old:Int) (s:StZ):Bool×WZ :=
 match wordS s with
 | none=>(false,W)
 | some v=>if sAt W x=old then (true,putW W (2*x).toNat v) else (false,tickW W)
def noteW (W:WZ) (x g n:Int) (r:RcZ):WZ :=
 match recW r with
 | none=>W
 | some v=>if slotZ W.a W.b W.f W.g x g n<0 then W else if (W.ws.length:Int)≤slotZ W.a W.b W.f W.g x g n then W else putW W (slotZ W.a W.b W.f W.g x g n).toNat v
def evC (k c g o w q p t e:Int):List AV:=[.int .i64 k,.int .i64 c,.int .i64 g,.int .i64 o,.int .i64 w,.int .i64 0,.int .i64 0,.int .i64 0,.int .i64 0,.int .i64 0,.int .i64 q,.int .i64 p,.int .i64 t,.int .i64 e]
def tellW (W:WZ) (k c g o w q p e:Int):WZ:={ W with lg:=W.lg++[evC k c g o w q p W.t e] }
theorem tick_ok {W:WZ} (h:okW W=true):okW (tickW W)=true:=by
 obtain ⟨h1,h2,h3,h4,h5,h6,h7⟩:=okW_ex h
 exact decide_eq_true ⟨h1,h2,h3,by simp only[tickW];omega,h5,h6,h7⟩
theorem put_ok {W:WZ} (h:okW W=true) (i:Nat) {v:Int} (v0:0≤v) (v1:v<18446744073709551616):okW (putW W i v)=true:=by
 obtain ⟨h1,h2,h3,h4,h5,h6,h7⟩:=okW_ex h
 exact decide_eq_true ⟨h1,w_set h2 v0 v1 i,by simp only[putW,List.length_set];exact h3,by simp only[putW];omega,h5,h6,h7⟩
theorem turn_ok {W:WZ} (h:okW W=true) (x old:Int) (s:StZ):okW (turnW W x old s).2=true:=by
 unfold turnW
 cases hv:wordS s with
 | none=>exact h
 | some v =>
  obtain ⟨v0,v1⟩:=wordS_in hv
  simp only
  split
  ·exact put_ok h _ v0 v1
  ·exact tick_ok h
theorem note_ok {W:WZ} (h:okW W=true) (x g n:Int) (r:RcZ):okW (noteW W x g n r)=true:=by
 unfold noteW
 cases hv:recW r with
 | none=>exact h
 | some v =>
  obtain ⟨v0,v1⟩:=recW_in hv
  simp only
  split
  ·exact h
  ·split
   ·exact h
   ·exact put_ok h _ v0 v1
theorem tell_ok {W:WZ} (h:okW W=true) (k c g o w q p e:Int):okW (tellW W k c g o w q p e)=true:=by
 obtain ⟨h1,h2,h3,h4,h5,h6,h7⟩:=okW_ex h
 refine decide_eq_true ⟨h1,h2,h3,h4,h5,h6,?_⟩
 simp only[tellW,List.all_append,h7]
 rfl
theorem turn_fr (W:WZ) (x old:Int) (s:StZ):((turnW W x old s).2.s=W.s∨(turnW W x old s).2.s=W.s+1)∧(turnW W x old s).2.lg=W.lg∧(turnW W x old s).2.t=W.t∧(turnW W x old s).2.a=W.a∧(turnW W x old s).2.b=W.b:=by
 unfold turnW
 split
 ·simp
 ·split<;>simp[putW,tickW]
theorem note_fr (W:WZ) (x g n:Int) (r:RcZ):((noteW W x g n r).s=W.s∨(noteW W x g n r).s=W.s+1)∧(noteW W x g n r).lg=W.lg∧(noteW W x g n r).t=W.t:=by
 unfold noteW
 split
 ·simp
 ·split
  ·simp
  ·split<;>simp[putW]
theorem sAt_in {W:WZ} (h:okW W=true) {x:Int} (h0:0≤x) (h1:x<W.a*W.b):0≤sAt W x∧sAt W x<18446744073709551616:=by
 obtain ⟨hcf,hw,hwl,_⟩:=okW_ex h
 have hc:=cfg_ex hcf
 have hall:=cfg_all hcf
 have hwd:=words_in (f:=W.f) (g:=W.g) (show 0≤W.a*W.b by omega) hall.2 (by omega) (by omega)
 exact (w_at hw (show (2*x).toNat<W.ws.length by omega)).2
theorem stateZ_ok (x:Int):okS (stateZ x)=true:=by
 have h1:=getZ_in x 0 4
 have h2:=getZ_in x 5 8
 have h3:=getZ_in x 13 16
 have h4:=getZ_in x 29 8
 refine decide_eq_true ?_
 simp only[stateZ]
 omega
theorem termsZ_pr (x:Int):0≤(termsZ x).pr∧(termsZ x).pr≤1000000:=by
 have h3:=getZ_in x 5 16
 simp only[termsZ]
 omega
theorem wz_t0' {W:WZ} (h:okW W=true):t0L (wzC W)=wzC W:=by
 obtain ⟨hcf,hw,hwl,hs0,ht0,ht1,hlg⟩:=okW_ex h
 simp[wzC,t0L,AV.t0,w_t0 hw,l_t0 hlg]
theorem wz_cl' {W:WZ} (h:okW W=true):clL (wzC W)=true:=by
 obtain ⟨hcf,hw,hwl,hs0,ht0,ht1,hlg⟩:=okW_ex h
 simp[wzC,clL,AV.cl,w_cl hw,l_cl hlg]
theorem e14 {W:WZ} (h:okW W=true) (hl:loW W=true) {x:Int} (h0:0≤x) (h1:x<W.a*W.b) (u u1 u2 u3 u4:Nat) :
  d14 [.op u (wzL W u1 u2 u3 u4),.int .i64 x]=some ⟨.tup [.int .u64 (sAt W x),stA (stateZ (sAt W x))],[.cells 0 (wzC (tickW W))]⟩:=by
 obtain ⟨hcf,hw,hwl,hs0,ht0,ht1,hlg⟩:=okW_ex h
 obtain ⟨hs1,hlgl⟩:=loW_ex hl
 simp only[wzL,d14]
 rw[if_pos ⟨hcf,hw,hwl,hs0,hs1,ht0,ht1,hlg,hlgl,h0,h1⟩]
 rfl
theorem e65 {W:WZ} (h:okW W=true) (hl:loW W=true) {x:Int} (h0:0≤x) (h1:x<W.a*W.b) (u u1 u2 u3 u4:Nat) :
  d65 [.op u (wzL W u1 u2 u3 u4),.int .i64 x]=some ⟨tmA (termsZ (tAt W x)),[.cells 0 (wzC (tickW W))]⟩:=by
 obtain ⟨hcf,hw,hwl,hs0,ht0,ht1,hlg⟩:=okW_ex h
 obtain ⟨hs1,hlgl⟩:=loW_ex hl
 simp only[wzL,d65]
 rw[if_pos ⟨hcf,hw,hwl,hs0,hs1,ht0,ht1,hlg,hlgl,h0,h1⟩]
 rfl
theorem e26 {W:WZ} (h:okW W=true) (hl:loW W=true) {x:Int} (h0:0≤x) (h1:x<W.a*W.b) (old:Int) {s:StZ} (hs:okS s=true) (u u1 u2 u3 u4:Nat) :
  d26 [.op u (wzL W u1 u2 u3 u4),.int .i64 x,.int .u64 old,stA s]=some ⟨.bool (turnW W x old s).1,[.cells 0 (wzC (turnW W x old s).2)]⟩:=by
 obtain ⟨hcf,hw,hwl,hs0,ht0,ht1,hlg⟩:=okW_ex h
 obtain ⟨hs1,hlgl⟩:=loW_ex hl
 obtain ⟨k0,k1,g0,g1,l0,l1,f0,f1⟩:=okS_ex hs
 simp only[wzL,d26,stA]
 rw[if_pos ⟨hcf,hw,hwl,hs0,hs1,ht0,ht1,hlg,hlgl,h0,h1,by omega,by omega,by omega,by omega,by omega,by omega,by omega,by omega⟩]
 unfold turnW sAt
 cases hv:wordS s with
 | none =>
  rfl
 | some v =>
  simp only
  split<;>rfl
theorem e68 {W:WZ} (h:okW W=true) (hl:loW W=true) (x g n:Int) {r:RcZ} (hr:-9223372036854775808≤r.k∧r.k≤9223372036854775807∧-9223372036854775808≤r.q∧r.q≤9223372036854775807∧-9223372036854775808≤r.p∧r.p≤9223372036854775807∧-9223372036854775808≤r.t∧r.t≤9223372036854775807∧-9223372036854775808≤r.c∧r.c≤9223372036854775807∧-9223372036854775808≤r.g∧r.g≤9223372036854775807) (u u1 u2 u3 u4:Nat) :
  d68 [.op u (wzL W u1 u2 u3 u4),.int .i64 x,.int .i64 g,.int .i64 n,rcA r]=some ⟨.tup [],[.cells 0 (wzC (noteW W x g n r))]⟩:=by
 obtain ⟨hcf,hw,hwl,hs0,ht0,ht1,hlg⟩:=okW_ex h
 obtain ⟨hs1,hlgl⟩:=loW_ex hl
 simp only[wzL,d68,rcA]
 rw[if_pos ⟨hcf,hw,hwl,hs0,hs1,ht0,ht1,hlg,hlgl,hr⟩]
 unfold noteW
 cases hv:recW r with
 | none =>
  rfl
 | some v =>
  simp only
  split
  ·rfl
  ·split<;>rfl
theorem e23 {W:WZ} (h:okW W=true) (hl:loW W=true) (k c g o w q p t0 e:Int) (u u1 u2 u3 u4:Nat) :
  d23 [.op u (wzL W u1 u2 u3 u4),.agg (evC k c g o w q p t0 e)]=some ⟨.tup [],[.cells 0 (wzC (tellW W k c g o w q p e))]⟩:=by
 obtain ⟨hcf,hw,hwl,hs0,ht0,ht1,hlg⟩:=okW_ex h
 obtain ⟨hs1,hlgl⟩:=loW_ex hl
 simp only[wzL,d23,evC]
 rw[if_pos ⟨hcf,hw,hwl,hs0,hs1,ht0,ht1,hlg,hlgl⟩]
 rfl
theorem e53 {W:WZ} (h:okW W=true) (T:TZ) (u v u1 u2 u3 u4:Nat):d53 [.op u (tzC T),.op v (wzL W u1 u2 u3 u4)]=some ⟨.bool (idleT W T),[.free,.free]⟩:=by
 simp only[d53,tzOf_C,wzOf_C]
 rw[if_pos h]
theorem e92 {W:WZ} (h:okW W=true) (T:TZ) (s:StZ) (u v u1 u2 u3 u4:Nat):d92 [.op u (tzC T),.op v (wzL W u1 u2 u3 u4),stA s]=some ⟨.bool (wantsT W T s),[.free,.free]⟩:=by
 simp only[d92,stA,tzOf_C,wzOf_C]
 rw[if_pos h]
theorem e94 {W:WZ} (h:okW W=true) (T:TZ) (s:StZ) (u v u1 u2 u3 u4:Nat):d94 [.op u (tzC T),.op v (wzL W u1 u2 u3 u4),stA s]=some ⟨.bool (findsT W T s),[.free,.free]⟩:=by
 simp only[d94,stA,tzOf_C,wzOf_C]
 rw[if_pos h]
theorem e99 (T:TZ) (c g:Int) (u:Nat):d99 [.op u (tzC T),.int .i64 c,.int .i64 g]=some ⟨rcA ⟨1,T.q,T.p,T.ta,c,g⟩,[.free]⟩:=by
 simp only[d99,tzOf_C]
theorem e13 (T:TZ) (u:Nat):d13 [.op u (tzC T)]=some ⟨.bool (decide (14≤T.pc)),[.free]⟩:=by
 simp only[d13,tzOf_C]
end Go.W

namespace Go.W
open Go.Proofs
set_option linter.unusedSimpArgs false
set_option linter.unusedVariables false
set_option maxHeartbeats 8000000
attribute [local irreducible] Wm
attribute [local simp] nmap lkp mkPl prs prsL prT ddL idL CRenL CRen Ren RenL NObj.none CRenLL
theorem stR (x:Int):0≤(stateZ x).k∧(stateZ x).k<16∧0≤(stateZ x).g∧(stateZ x).g<256∧0≤(stateZ x).l∧(stateZ x).l<65536∧0≤(stateZ x).f∧(stateZ x).f<256:=by
 have h1:=getZ_in x 0 4
 have h2:=getZ_in x 5 8
 have h3:=getZ_in x 13 16
 have h4:=getZ_in x 29 8
 simp only[stateZ]
 omega
theorem hold_okS {s:StZ} (h:okS s=true):okS (holdS s)=true:=by
 have:=okS_ex h
 unfold holdS
 repeat' split
 all_goals exact decide_eq_true (by first|omega|(simp only;omega))
theorem ended_okS {s:StZ} (h:okS s=true) (F:Int):okS (endedS s F)=true:=by
 have:=okS_ex h
 unfold endedS
 repeat' split
 all_goals exact decide_eq_true (by first|omega|(simp only;omega))
theorem loosen_okS {s:StZ} (h:okS s=true):okS (loosenS s)=true:=by
 have:=okS_ex h
 unfold loosenS
 repeat' split
 all_goals exact decide_eq_true (by first|omega|(simp only;omega))
theorem take_okS (x q F:Int):okS (takeS (stateZ x) q F).1=true:=by
 have:=stR x
 unfold takeS
 repeat' split
 all_goals first|(exact rfl)|skip
 exact ended_okS (decide_eq_true (by simp only;omega)) F
theorem rel1_okS {s:StZ} (h:okS s=true) (F:Int):okS (relS1 s F)=true:=by
 have h1:=ended_okS (loosen_okS h) F
 have:=okS_ex h1
 unfold relS1
 split
 ·exact decide_eq_true (by simp only;omega)
 ·exact h1
theorem rel_okS (x q F:Int):okS (releaseS (stateZ x) q F).1=true:=by
 have:=stR x
 unfold releaseS
 repeat' split
 all_goals first|(exact rfl)|skip
 ·exact rel1_okS (decide_eq_true (by simp only;omega)) F
 ·exact rel1_okS (stateZ_ok x) F
theorem match_in {a b:TmZ} (h1:0≤a.pr) (h2:a.pr≤1000000) (h3:0≤b.pr) (h4:b.pr≤1000000) {l o:Int} (hl:l≤1000000) (ho:o≤1000000):0≤(matchZ a b l o).1∧(matchZ a b l o).1≤1000000∧0≤(matchZ a b l o).2∧(matchZ a b l o).2≤1000000:=by
 unfold matchZ
 obtain ⟨hi,e1⟩:∃ x,(if a.sd=1 then b.pr else a.pr)=x:=⟨_,rfl⟩
 obtain ⟨lo,e2⟩:∃ x,(if a.sd=1 then a.pr else b.pr)=x:=⟨_,rfl⟩
 obtain ⟨m,e3⟩:∃ x,(if o<l then o else l)=x:=⟨_,rfl⟩
 have b1:0≤hi∧hi≤1000000:=by rw[← e1];split<;>omega
 have b2:0≤lo∧lo≤1000000:=by rw[← e2];split<;>omega
 have b3:m≤1000000:=by rw[← e3];split<;>omega
 rw[e1,e2,e3]
 clear e1 e2 e3
 repeat' split
 all_goals first|(simp;done)|(simp only;omega)
theorem end_in {s:StZ} (h:okS s=true) {t:Int} (h0:0≤t) (h1:t≤1000000):-9223372036854775808≤(endS s t).1.k∧(endS s t).1.k≤9223372036854775807∧-9223372036854775808≤(endS s t).1.q∧(endS s t).1.q≤9223372036854775807∧-9223372036854775808≤(endS s t).1.p∧(endS s t).1.p≤9223372036854775807∧-9223372036854775808≤(endS s t).1.t∧(endS s t).1.t≤9223372036854775807∧-9223372036854775808≤(endS s t).1.c∧(endS s t).1.c≤9223372036854775807∧-9223372036854775808≤(endS s t).1.g∧(endS s t).1.g≤9223372036854775807:=by
 have:=okS_ex h
 unfold endS
 repeat' split
 all_goals (simp only;omega)
theorem idle_in {W:WZ} {T:TZ} (hW:okW W=true) (h:idleT W T=false):0≤T.x∧T.x<W.a*W.b∧0≤T.y∧T.y<W.a*W.b∧W.a*W.b≤24:=by
 have hall:=cfg_all (okW_ex hW).1
 have h':=of_decide_eq_false h
 unfold ownZ at h'
 refine ⟨?_,?_,?_,?_,hall.2⟩<;>(by_cases a1:T.x<0<;>by_cases a2:T.x<W.a*W.b<;>by_cases a3:T.y<0<;>by_cases a4:T.y<W.a*W.b<;>simp[a1,a2,a3,a4]at h'⊢<;>omega)
def holdT (W:WZ) (T:TZ):TZ×WZ:=if wantsT W T (stateZ T.wx)=true then ({ T with held:=(turnW W T.x T.wx (holdS (stateZ T.wx))).1 },(turnW W T.x T.wx (holdS (stateZ T.wx))).2) else (T,W)
def lookT (W:WZ) (T:TZ):TZ×WZ:=if T.held=true∧T.free=false then ({ T with wx:=sAt W T.x },tickW W) else (T,W)
def takeT (W:WZ) (T:TZ):TZ×WZ :=
 if T.held=true∧findsT W T (stateZ T.wy)=true then
  if (takeS (stateZ T.wy) (matchZ T.tx T.ty (stateZ T.wx).l (stateZ T.wy).l).1 W.f).2=0 then
   if (turnW W T.y T.wy (takeS (stateZ T.wy) (matchZ T.tx T.ty (stateZ T.wx).l (stateZ T.wy).l).1 W.f).1).1=true then
    ({ T with q:=(matchZ T.tx T.ty (stateZ T.wx).l (stateZ T.wy).l).1,p:=(matchZ T.tx T.ty (stateZ T.wx).l (stateZ T.wy).l).2,made:=true,ny:=(takeS (stateZ T.wy) (matchZ T.tx T.ty (stateZ T.wx).l (stateZ T.wy).l).1 W.f).1,ta:=W.t },tellW (turnW W T.y T.wy (takeS (stateZ T.wy) (matchZ T.tx T.ty (stateZ T.wx).l (stateZ T.wy).l).1 W.f).1).2 2 T.x (stateZ T.wx).g T.y (stateZ T.wy).g (matchZ T.tx T.ty (stateZ T.wx).l (stateZ T.wy).l).1 (matchZ T.tx T.ty (stateZ T.wx).l (stateZ T.wy).l).2 0)
   else ({ T with q:=(matchZ T.tx T.ty (stateZ T.wx).l (stateZ T.wy).l).1,p:=(matchZ T.tx T.ty (stateZ T.wx).l (stateZ T.wy).l).2 },(turnW W T.y T.wy (takeS (stateZ T.wy) (matchZ T.tx T.ty (stateZ T.wx).l (stateZ T.wy).l).1 W.f).1).2)
  else ({ T with q:=(matchZ T.tx T.ty (stateZ T.wx).l (stateZ T.wy).l).1,p:=(matchZ T.tx T.ty (stateZ T.wx).l (stateZ T.wy).l).2 },W)
 else (T,W)
def qtyT (T:TZ):Int:=if T.made=true then T.q else 0
def letT (W:WZ) (T:TZ):TZ×WZ :=
 if T.held=true∧T.free=false then
  if (releaseS (stateZ T.wx) (qtyT T) W.f).2=0 then
   if (turnW W T.x T.wx (releaseS (stateZ T.wx) (qtyT T) W.f).1).1=true then
    ({ T with free:=true,nx:=(releaseS (stateZ T.wx) (qtyT T) W.f).1,en:=W.t },if overZ (releaseS (stateZ T.wx) (qtyT T) W.f).1.k=true then tellW (turnW W T.x T.wx (releaseS (stateZ T.wx) (qtyT T) W.f).1).2 7 T.x (releaseS (stateZ T.wx) (qtyT T) W.f).1.g 0 0 0 0 (releaseS (stateZ T.wx) (qtyT T) W.f).1.k else (turnW W T.x T.wx (releaseS (stateZ T.wx) (qtyT T) W.f).1).2)
   else (T,(turnW W T.x T.wx (releaseS (stateZ T.wx) (qtyT T) W.f).1).2)
  else (T,W)
 else (T,W)
def fillR (T:TZ) (c g:Int):RcZ:=⟨1,T.q,T.p,T.ta,c,g⟩
def noteT (W:WZ) (T:TZ):WZ :=
 if T.pc=10∧T.made=true then noteW W T.x T.nx.g (T.nx.f - 1) (fillR T T.y T.ny.g)
 else if T.pc=11∧T.made=true then noteW W T.y T.ny.g (T.ny.f - 1) (fillR T T.x T.nx.g)
 else if T.pc=12∧T.made=true then (if (endS T.ny T.ta).2=true then noteW W T.y T.ny.g W.f (endS T.ny T.ta).1 else W)
 else if T.pc=13∧T.held=true then (if (endS T.nx T.en).2=true then noteW W T.x T.nx.g W.f (endS T.nx T.en).1 else W)
 else W
def stepT (W:WZ) (T:TZ):TZ×WZ :=
 if T.pc=0 then ({ T with wx:=sAt W T.x },tickW W)
 else if T.pc=1 then ({ T with tx:=termsZ (tAt W T.x) },tickW W)
 else if T.pc=2 then holdT W T
 else if T.pc=3 then ({ T with wy:=sAt W T.y },tickW W)
 else if T.pc=4 then ({ T with ty:=termsZ (tAt W T.y) },tickW W)
 else if T.pc=5 then takeT W T
 else if T.pc=6∨T.pc=8 then lookT W T
 else if T.pc=7∨T.pc=9 then letT W T
 else (T,noteT W T)
def StepT (W:WZ) (T:TZ):TZ×WZ :=
 if 14≤T.pc then (T,W)
 else if idleT W T=true then ({ T with pc:=T.pc+1 },W)
 else ({ (stepT W T).1 with pc:=T.pc+1 },(stepT W T).2)
theorem hold_ok {W:WZ} (h:okW W=true) (T:TZ):okW (holdT W T).2=true:=by
 unfold holdT;split
 ·exact turn_ok h _ _ _
 ·exact h
theorem look_ok {W:WZ} (h:okW W=true) (T:TZ):okW (lookT W T).2=true:=by
 unfold lookT;split
 ·exact tick_ok h
 ·exact h
theorem take_ok {W:WZ} (h:okW W=true) (T:TZ):okW (takeT W T).2=true:=by
 unfold takeT
 repeat' split
 ·exact tell_ok (turn_ok h _ _ _) _ _ _ _ _ _ _ _
 ·exact turn_ok h _ _ _
 ·exact h
 ·exact h
theorem let_ok {W:WZ} (h:okW W=true) (T:TZ):okW (letT W T).2=true:=by
 unfold letT
 repeat' split
 ·exact tell_ok (turn_ok h _ _ _) _ _ _ _ _ _ _ _
 ·exact turn_ok h _ _ _
 ·exact turn_ok h _ _ _
 ·exact h
 ·exact h
theorem noteT_ok {W:WZ} (h:okW W=true) (T:TZ):okW (noteT W T)=true:=by
 unfold noteT
 repeat' split
 all_goals first|exact h|exact note_ok h _ _ _ _
theorem stepT_ok {W:WZ} (h:okW W=true) (T:TZ):okW (stepT W T).2=true:=by
 unfold stepT
 repeat' split
 all_goals first|exact tick_ok h|exact hold_ok h T|exact take_ok h T|exact look_ok h T|exact let_ok h T|exact noteT_ok h T
theorem StepT_ok {W:WZ} (h:okW W=true) (T:TZ):okW (StepT W T).2=true:=by
 unfold StepT
 repeat' split
 all_goals first|exact h|exact stepT_ok h T
end Go.W

namespace Go.W
open Go.Proofs
set_option linter.unusedSimpArgs false
set_option linter.unusedVariables false
set_option maxHeartbeats 8000000
attribute [local irreducible] Wm
attribute [local simp] nmap lkp mkPl prs prsL prT ddL idL CRenL CRen Ren RenL NObj.none CRenLL
def wordR:Option Int→AV
 | some x=>.tup [.int .u64 x,.int .i64 0]
 | none=>.tup [.int .u64 0,.int .i64 5]
def wordT (t:TmZ):Option Int:=packK [[.int .i64 4],[.int .i64 1],[.int .i64 16],[.int .i64 16],[.int .i64 24]] [[.int .i64 t.nm],[.int .i64 t.sd],[.int .i64 t.pr],[.int .i64 t.le],[.int .i64 t.un]] 5
theorem wordT_in {t:TmZ} {v:Int} (h:wordT t=some v):0≤v∧v<18446744073709551616:=by
 unfold wordT at h
 have:=packK_in (by simp[isWd]) 5 v (by simp) h
 have e:(lowZ [[AV.int .i64 4],[AV.int .i64 1],[AV.int .i64 16],[AV.int .i64 16],[AV.int .i64 24]] 5).toNat=61:=by simp[lowZ,cellI]
 rw[e]at this
 omega
def d45:List AV→List NObj→Option AV
 | [.agg [.int .i64 k,.bool fl,.int .i64 sg,.int .i64 sl,.int .i64 sf]],[]=>if -9223372036854775808≤k∧k≤9223372036854775807∧-9223372036854775808≤sg∧sg≤9223372036854775807∧-9223372036854775808≤sl∧sl≤9223372036854775807∧-9223372036854775808≤sf∧sf≤9223372036854775807 then some (wordR (wordS ⟨k,fl,sg,sl,sf⟩)) else none
 | _,_=>none
theorem ok45:ROk d45:=by
 intro xs os r h
 unfold d45 at h
 (repeat' (split at h))<;>first|(cases h;done)|(injection h with h;subst h;unfold wordR;split<;>simp)
theorem s45:Sound Try.prog 45 (rdS d45 ok45):=by
 refine rd_sound Try.func45 nm45 rc45 rv45 ok45 fun xs os r h vs ρ0 hvs=>⟨xs,?_,fun _ h=>h,fun w0 S hS=>?_⟩
 ·unfold d45 at h
  (repeat' (split at h))<;>first|(cases h;done)|exact Nat.le_of_ble_eq_true rfl
 unfold d45 at h
 split at h
 ·split at h
  ·rename_i k fl sg sl sf hcond
   injection h with h
   subst h
   have hE:SoundAll Try.prog (EL [(75,rdS d75 ok75)]):=EL_sound (by simp only[List.mem_cons,List.not_mem_nil,or_false,forall_eq_or_imp,forall_eq];exact s75)
   by_cases h1:8<k
   ·unfold m45
    repeat' with_reducible (first
     | refine ZR.h ?_ | refine zI (by decide) ?_
     | (refine zK hE ?_;intro K hK;simp[KR.ks,q45_0,q45_1,q45_2,q45_3,q45_4,q45_5,q45_6,q45_7,h1,d75];(repeat' (first | refine hK _ _ ?_ | refine And.intro ?_ ?_ | (intro hc;try subst hc)))<;>(try clear hK K))
     | (refine zJ (b:=_) (by with_unfolding_all rfl) (fun hc=>?_) (fun hc=>?_)<;>simp at hc<;>(try subst hc)))
    all_goals first|(simp;done)|(simp at *;omega)|((try simp[h1,wordS,wordR]);refine Imp.auto (by kernel_rfl) ?_ ?_<;>simp[NLe,h1,wordS,wordR])
   ·cases fl
    ·obtain ⟨P,hP⟩:∃ P,packK [[.int .i64 4],[.int .i64 1],[.int .i64 8],[.int .i64 16],[.int .i64 8]] [[.int .i64 k],[.int .i64 0],[.int .i64 sg],[.int .i64 sl],[.int .i64 sf]] 5=P:=⟨_,rfl⟩
     cases P
     ·unfold m45
      repeat' with_reducible (first
       | refine ZR.h ?_ | refine zI (by decide) ?_
       | (refine zK hE ?_;intro K hK;simp[KR.ks,q45_0,q45_1,q45_2,q45_3,q45_4,q45_5,q45_6,q45_7,h1,isWd,isV,lowZ,cellI,hcond,hP,packR,d75];(repeat' (first | refine hK _ _ ?_ | refine And.intro ?_ ?_ | (intro hc;try subst hc)))<;>(try clear hK K))
       | (refine zJ (b:=_) (by with_unfolding_all rfl) (fun hc=>?_) (fun hc=>?_)<;>simp at hc<;>(try subst hc)))
      all_goals first|(simp;done)|(simp at *;omega)|((try simp[h1,wordS,hP,wordR]);refine Imp.auto (by kernel_rfl) ?_ ?_<;>simp[NLe,h1,wordS,hP,wordR])
     ·unfold m45
      repeat' with_reducible (first
       | refine ZR.h ?_ | refine zI (by decide) ?_
       | (refine zK hE ?_;intro K hK;simp[KR.ks,q45_0,q45_1,q45_2,q45_3,q45_4,q45_5,q45_6,q45_7,h1,isWd,isV,lowZ,cellI,hcond,hP,packR,d75];(repeat' (first | refine hK _ _ ?_ | refine And.intro ?_ ?_ | (intro hc;try subst hc)))<;>(try clear hK K))
       | (refine zJ (b:=_) (by with_unfolding_all rfl) (fun hc=>?_) (fun hc=>?_)<;>simp at hc<;>(try subst hc)))
      all_goals first|(simp;done)|(simp at *;omega)|((try simp[h1,wordS,hP,wordR]);refine Imp.auto (by kernel_rfl) ?_ ?_<;>simp[NLe,h1,wordS,hP,wordR])
    ·obtain ⟨P,hP⟩:∃ P,packK [[.int .i64 4],[.int .i64 1],[.int .i64 8],[.int .i64 16],[.int .i64 8]] [[.int .i64 k],[.int .i64 1],[.int .i64 sg],[.int .i64 sl],[.int .i64 sf]] 5=P:=⟨_,rfl⟩
     cases P
     ·unfold m45
      repeat' with_reducible (first
       | refine ZR.h ?_ | refine zI (by decide) ?_
       | (refine zK hE ?_;intro K hK;simp[KR.ks,q45_0,q45_1,q45_2,q45_3,q45_4,q45_5,q45_6,q45_7,h1,isWd,isV,lowZ,cellI,hcond,hP,packR,d75];(repeat' (first | refine hK _ _ ?_ | refine And.intro ?_ ?_ | (intro hc;try subst hc)))<;>(try clear hK K))
       | (refine zJ (b:=_) (by with_unfolding_all rfl) (fun hc=>?_) (fun hc=>?_)<;>simp at hc<;>(try subst hc)))
      all_goals first|(simp;done)|(simp at *;omega)|((try simp[h1,wordS,hP,wordR]);refine Imp.auto (by kernel_rfl) ?_ ?_<;>simp[NLe,h1,wordS,hP,wordR])
     ·unfold m45
      repeat' with_reducible (first
       | refine ZR.h ?_ | refine zI (by decide) ?_
       | (refine zK hE ?_;intro K hK;simp[KR.ks,q45_0,q45_1,q45_2,q45_3,q45_4,q45_5,q45_6,q45_7,h1,isWd,isV,lowZ,cellI,hcond,hP,packR,d75];(repeat' (first | refine hK _ _ ?_ | refine And.intro ?_ ?_ | (intro hc;try subst hc)))<;>(try clear hK K))
       | (refine zJ (b:=_) (by with_unfolding_all rfl) (fun hc=>?_) (fun hc=>?_)<;>simp at hc<;>(try subst hc)))
      all_goals first|(simp;done)|(simp at *;omega)|((try simp[h1,wordS,hP,wordR]);refine Imp.auto (by kernel_rfl) ?_ ?_<;>simp[NLe,h1,wordS,hP,wordR])
  ·cases h
 ·cases h
def d46:List AV→List NObj→Option AV
 | [.agg [.int .i64 n0,.int .i64 n1,.int .i64 n2,.int .i64 n3,.int .i64 n4]],[]=>if -9223372036854775808≤n0∧n0≤9223372036854775807∧-9223372036854775808≤n1∧n1≤9223372036854775807∧-9223372036854775808≤n2∧n2≤9223372036854775807∧-9223372036854775808≤n3∧n3≤9223372036854775807∧-9223372036854775808≤n4∧n4≤9223372036854775807 then some (wordR (wordT ⟨n0,n1,n2,n3,n4⟩)) else none
 | _,_=>none
theorem ok46:ROk d46:=by
 intro xs os r h
 unfold d46 at h
 (repeat' (split at h))<;>first|(cases h;done)|(injection h with h;subst h;unfold wordR;split<;>simp)
theorem s46:Sound Try.prog 46 (rdS d46 ok46):=by
 refine rd_sound Try.func46 nm46 rc46 rv46 ok46 fun xs os r h vs ρ0 hvs=>⟨xs,?_,fun _ h=>h,fun w0 S hS=>?_⟩
 ·unfold d46 at h
  (repeat' (split at h))<;>first|(cases h;done)|exact Nat.le_of_ble_eq_true rfl
 unfold d46 at h
 split at h
 ·split at h
  ·rename_i n0 n1 n2 n3 n4 hcond
   injection h with h
   subst h
   have hE:SoundAll Try.prog (EL [(75,rdS d75 ok75)]):=EL_sound (by simp only[List.mem_cons,List.not_mem_nil,or_false,forall_eq_or_imp,forall_eq];exact s75)
   obtain ⟨P,hP⟩:∃ P,packK [[.int .i64 4],[.int .i64 1],[.int .i64 16],[.int .i64 16],[.int .i64 24]] [[.int .i64 n0],[.int .i64 n1],[.int .i64 n2],[.int .i64 n3],[.int .i64 n4]] 5=P:=⟨_,rfl⟩
   cases P
   ·unfold m46
    repeat' with_reducible (first
     | refine ZR.h ?_ | refine zI (by decide) ?_
     | (refine zK hE ?_;intro K hK;simp[KR.ks,q46_0,q46_1,q46_2,isWd,isV,lowZ,cellI,hcond,hP,packR,d75];(repeat' (first | refine hK _ _ ?_ | refine And.intro ?_ ?_ | (intro hc;try subst hc)))<;>(try clear hK K))
     | (refine zJ (b:=_) (by with_unfolding_all rfl) (fun hc=>?_) (fun hc=>?_)<;>simp at hc<;>(try subst hc)))
    all_goals first|(simp;done)|(simp at *;omega)|((try simp[wordT,hP,wordR]);refine Imp.auto (by kernel_rfl) ?_ ?_<;>simp[NLe,wordT,hP,wordR])
   ·unfold m46
    repeat' with_reducible (first
     | refine ZR.h ?_ | refine zI (by decide) ?_
     | (refine zK hE ?_;intro K hK;simp[KR.ks,q46_0,q46_1,q46_2,isWd,isV,lowZ,cellI,hcond,hP,packR,d75];(repeat' (first | refine hK _ _ ?_ | refine And.intro ?_ ?_ | (intro hc;try subst hc)))<;>(try clear hK K))
     | (refine zJ (b:=_) (by with_unfolding_all rfl) (fun hc=>?_) (fun hc=>?_)<;>simp at hc<;>(try subst hc)))
    all_goals first|(simp;done)|(simp at *;omega)|((try simp[wordT,hP,wordR]);refine Imp.auto (by kernel_rfl) ?_ ?_<;>simp[NLe,wordT,hP,wordR])
  ·cases h
 ·cases h
end Go.W

namespace Go.W
open Go.Proofs
set_option linter.unusedSimpArgs false
set_option linter.unusedVariables false
set_option maxHeartbeats 8000000
attribute [local irreducible] Wm
attribute [local simp] nmap lkp mkPl prs prsL prT ddL idL CRenL CRen Ren RenL NObj.none CRenLL
def W0 (a b c d e f g:Int):WZ:=⟨a,b,c,d,e,f,g,List.replicate (a*b*2+a*b*g*(f+1)).toNat [.int .u64 0],0,0,[]⟩
theorem rep_w (n:Nat):(List.replicate n [AV.int .u64 0]).all isW=true:=by
 induction n with
 | zero=>rfl
 | succ n ih=>rw[List.replicate_succ,List.all_cons,ih];rfl
def mkPlX (m:Nat) (ex:List (Nat×Option Nat)) (s s':St):List (Nat×Option Nat):=ddL (idL m++(ex++prT s.tl s'.tl))
theorem Imp.autoX {m:Nat} {s s':St} (ex:List (Nat×Option Nat)) (h:plB m (mkPlX m ex s s') s'.nb=true) (ht:∀ p,p∈s'.tl→Ren (nmap (mkPlX m ex s s') (hk s.hl) (hk s'.hl)) (lk s.tl p.1) p.2)
  (ho:∀ p,p∈s'.hl→p.2.tag<s'.nb∧(match lkp (mkPlX m ex s s') p.1 with
  | some (some y)=>NLe (nmap (mkPlX m ex s s') (hk s.hl) (hk s'.hl)) (hk s.hl y) p.2
  | some none=>p.2.none
  | none=>p.2=.free)):Imp m s s':=Imp.le _ (LeN.mk' h ht ho)
def A0 (a b c d e f g:Int) (rp:List (List AV)):St:=⟨[(0,.tup [.ptr (.top 0) 0 0,.raw .nilIface])],[(0,.cells 0 [.int .i64 a,.int .i64 b,.int .i64 c,.int .i64 d,.int .i64 e,.int .i64 f,.int .i64 g,.ptr (.top 1) 0 0,.ptr (.top 2) 0 0,.sl (.top 3) 0 0]),(1,.cells 0 [.os 0 1 rp,.int .i64 0,.bot,.bot,.bot,.bot,.bot]),(2,.cells 0 [.int .u64 0]),(3,.arr 0 14 [])],4⟩
def d43:List AV→Option Ans
 | [.agg [.int .i64 a,.int .i64 b,.int .i64 c,.int .i64 d,.int .i64 e,.int .i64 f,.int .i64 g]]=>if cfgB a b c d e f g=true then some ⟨.tup [.op 0 (wzC (W0 a b c d e f g)),.raw .nilIface],[]⟩ else none
 | _=>none
theorem ok43:NOk [] d43:=by
 intro xs aa h
 unfold d43 at h
 split at h
 ·split at h
  ·rename_i a b c d e f g hc
   have hT:=w_t0 (rep_w (a*b*2+a*b*g*(f+1)).toNat)
   have hC:=w_cl (rep_w (a*b*2+a*b*g*(f+1)).toNat)
   injection h with h;subst h
   refine ⟨Ends_of ?_,?_⟩<;>simp[wzC,W0,hT,hC]
  ·cases h
 ·cases h
theorem s43:Sound Try.prog 43 (nestS [] d43 ok43):=by
 refine nest_sound Try.func43 nm43 rc43 rv43 ok43 (fun xs a h=>?_) fun xs a h w0 S hS=>?_
 ·unfold d43 at h
  (repeat' (split at h))<;>first|(cases h;done)|exact Nat.le_of_ble_eq_true rfl
 unfold d43 at h
 split at h
 ·split at h
  ·rename_i a b c d e f g hcond
   injection h with h
   subst h
   have hE:SoundAll Try.prog (EL [(42,nestS [] d42 ok42),(74,rdS d74 ok74),(73,nestS [] d73 ok73)]):=EL_sound (by simp only[List.mem_cons,List.not_mem_nil,or_false,forall_eq_or_imp,forall_eq];exact ⟨s42,s74,s73⟩)
   have hc:=cfg_ex hcond
   have hall:=cfg_all hcond
   have hwd:=words_in (f:=f) (g:=g) (show 0≤a*b by omega) hall.2 (by omega) (by omega)
   have hck:checkZ a b c d e f g=-1:=(check_cfg a b c d e f g).mpr hcond
   obtain ⟨wn,hwn⟩:∃ wn,a*b*2+a*b*g*(f+1)=wn:=⟨_,rfl⟩
   have hwn2:0≤wn∧wn≤8192:=by omega
   have h42:d42 [.agg [.int .i64 a,.int .i64 b,.int .i64 c,.int .i64 d,.int .i64 e,.int .i64 f,.int .i64 g]]=some ⟨.tup [.agg [.int .i64 a,.int .i64 b,.int .i64 c,.int .i64 d,.int .i64 e,.int .i64 f,.int .i64 g],.raw .nilIface],[]⟩:=by
    simp only[d42];rw[if_pos hck]
   have h74:d74 [.agg [.int .i64 a,.int .i64 b,.int .i64 c,.int .i64 d,.int .i64 e,.int .i64 f,.int .i64 g]] []=some (.int .i64 wn):=by
    simp only[d74];rw[if_pos hcond,hwn]
   have hT:=w_t0 (rep_w wn.toNat)
   have hC:=w_cl (rep_w wn.toNat)
   have h73:d73 [.int .i64 wn]=some ⟨.tup [.op 0 [.os 0 1 (List.replicate wn.toNat [.int .u64 0]),.int .i64 0,.bot,.bot,.bot,.bot,.bot],.raw .nilIface],[]⟩:=by
    simp only[d73];rw[if_pos hwn2]
   obtain ⟨rp,hrp⟩:∃ r,List.replicate wn.toNat [AV.int .u64 0]=r:=⟨_,rfl⟩
   rw[hrp]at hT hC h73
   simp only[wzC,W0,hwn,hrp]
   unfold m43
   repeat' with_reducible (first
    | refine ZR.h ?_ | refine zI (by decide) ?_
    | (refine zK hE ?_;intro K hK;simp[KR.ks,q43_0,q43_1,q43_2,q43_3,q43_4,q43_5,q43_6,q43_7,h42,h74,h73,hT,hC];(repeat' (first | refine hK _ _ ?_ | refine And.intro ?_ ?_ | (intro hc;try subst hc)))<;>(try clear hK K))
    | (refine zJ (b:=_) (by with_unfolding_all rfl) (fun hc=>?_) (fun hc=>?_)<;>simp at hc<;>(try subst hc)))
   all_goals (try simp[hT,hC])
   all_goals (refine Imp.trans (t:=A0 a b c d e f g rp) (Imp.autoX [(1,some 128),(2,some 216),(3,none)] (by kernel_rfl) ?_ ?_) ?_)
   all_goals first|(simp[A0,mkPlX,nmap,lkp,mkPl,prs,prsL,prT,ddL,idL,NLe,CRenL,CRen,Ren,RenL,NObj.none,CRenLL,hT,hC];done)|skip
   all_goals (refine Imp.trans (Imp.absorb (.top 0) 0 7 1 (by rfl) (by rfl) (by rfl) (.inr ⟨0,_,by rfl,by rfl⟩) (by simp)) ?_)
   all_goals (refine Imp.trans (Imp.absorb (.top 0) 0 8 2 (by rfl) (by rfl) (by rfl) (.inr ⟨0,_,by rfl,by rfl⟩) (by simp)) ?_)
   all_goals (refine Imp.trans (Imp.absorb (.top 0) 0 9 3 (by rfl) (by rfl) (by rfl) (.inl ⟨0,14,[],by rfl,by rfl⟩) (by simp)) ?_)
   all_goals (simp only[A0];refine Imp.auto (by kernel_rfl) ?_ ?_<;>simp[nmap,lkp,mkPl,prs,prsL,prT,ddL,idL,NLe,CRenL,CRen,Ren,RenL,NObj.none,CRenLL,hT,hC,absorbG,newcell])
  ·cases h
 ·cases h
end Go.W

namespace Go.W
open Go.Proofs
set_option linter.unusedSimpArgs false
set_option linter.unusedVariables false
set_option maxHeartbeats 8000000
attribute [local irreducible] Wm
attribute [local simp] nmap lkp mkPl prs prsL prT ddL idL CRenL CRen Ren RenL NObj.none CRenLL
def bots (i:Nat):List (List AV):=List.replicate i [.bot]
theorem bots_len (i:Nat):(bots i).length=i:=List.length_replicate ..
theorem bots_tl (n:Nat):∀ i,tlLL n (bots i)=true
 | 0=>rfl
 | i+1=>by
  have h:=bots_tl n i
  unfold bots at h⊢
  rw[List.replicate_succ]
  simp only[tlLL,h,Bool.and_true]
  rfl
theorem bots_ren (φ:NMap) (x:AV):∀ i,CRenLL φ (bots i++[[x]]) (bots (i+1))
 | 0=>by simp[bots,CRenLL,CRenL,CRen,Ren]
 | i+1=>by
  have h:=bots_ren φ x i
  unfold bots at h⊢
  rw[List.replicate_succ (n:=i+1),List.replicate_succ (n:=i),List.cons_append]
  rw[List.replicate_succ (n:=i)]at h
  exact ⟨⟨by simp[CRen,Ren],trivial⟩,h⟩
theorem rep_t0 {c:List AV} (h:t0L c=c):∀ k,t0LL (List.replicate k c)=List.replicate k c
 | 0=>rfl
 | k+1=>by rw[List.replicate_succ];simp only[t0LL,h,rep_t0 h k]
theorem rep_cl {c:List AV} (h:clL c=true):∀ k,clLL (List.replicate k c)=true
 | 0=>rfl
 | k+1=>by rw[List.replicate_succ];simp only[clLL,h,rep_cl h k,Bool.and_self]
def qC (a b c d e f g:Int) (S T:List (List AV)):List AV:=[.int .i64 a,.int .i64 b,.int .i64 c,.int .i64 d,.int .i64 e,.int .i64 f,.int .i64 g,.os 0 5 S,.os 0 5 T,.bot,.bot,.bot,.bot]
def zS (n:Nat):List (List AV):=List.replicate n [.int .i64 0,.bool false,.int .i64 0,.int .i64 0,.int .i64 0]
def zT (n:Nat):List (List AV):=List.replicate n [.int .i64 0,.int .i64 0,.int .i64 0,.int .i64 0,.int .i64 0]
def d44:List AV→Option Ans
 | [.agg [.int .i64 a,.int .i64 b,.int .i64 c,.int .i64 d,.int .i64 e,.int .i64 f,.int .i64 g]]=>if cfgB a b c d e f g=true then some ⟨.op 0 (qC a b c d e f g (zS (a*b).toNat) (zT (a*b).toNat)),[]⟩ else none
 | _=>none
theorem ok44:NOk [] d44:=by
 intro xs aa h
 unfold d44 at h
 split at h
 ·split at h
  ·rename_i a b c d e f g hc
   have h1:=rep_t0 (c:=[.int .i64 0,.bool false,.int .i64 0,.int .i64 0,.int .i64 0]) rfl (a*b).toNat
   have h2:=rep_cl (c:=[.int .i64 0,.bool false,.int .i64 0,.int .i64 0,.int .i64 0]) rfl (a*b).toNat
   have h3:=rep_t0 (c:=[.int .i64 0,.int .i64 0,.int .i64 0,.int .i64 0,.int .i64 0]) rfl (a*b).toNat
   have h4:=rep_cl (c:=[.int .i64 0,.int .i64 0,.int .i64 0,.int .i64 0,.int .i64 0]) rfl (a*b).toNat
   injection h with h;subst h
   refine ⟨Ends_of ?_,?_⟩<;>simp[qC,zS,zT,h1,h2,h3,h4]
  ·cases h
 ·cases h
def I44 (a b c d e f g n:Int) (S T:List (List AV)) (i:Nat):St:=⟨[(1,.ptr (.top 0) 0 0),(3,.int .i64 n),(4,.ptr (.top 1) 0 0),(5,.int .i64 i)],[(0,.cells 0 [.int .i64 a,.int .i64 b,.int .i64 c,.int .i64 d,.int .i64 e,.int .i64 f,.int .i64 g]),(1,.cells 0 [.int .i64 a,.int .i64 b,.int .i64 c,.int .i64 d,.int .i64 e,.int .i64 f,.int .i64 g,.sl (.top 2) 0 n.toNat,.sl (.top 3) 0 n.toNat,.sl (.top 4) 0 i,.int .i64 0,.nsl,.int .i64 0]),(2,.arr 0 5 S),(3,.arr 0 5 T),(4,.arr 0 1 (bots i))],5⟩
def E44 (a b c d e f g n:Int) (S T:List (List AV)):St:=⟨[(0,.ptr (.top 0) 0 0)],[(0,.cells 0 [.int .i64 a,.int .i64 b,.int .i64 c,.int .i64 d,.int .i64 e,.int .i64 f,.int .i64 g,.sl (.top 1) 0 n.toNat,.sl (.top 2) 0 n.toNat,.bot,.bot,.bot,.bot]),(1,.arr 0 5 S),(2,.arr 0 5 T)],3⟩
theorem s44:Sound Try.prog 44 (nestS [] d44 ok44):=by
 refine nest_sound Try.func44 nm44 rc44 rv44 ok44 (fun xs a h=>?_) fun xs a h w0 S hS=>?_
 ·unfold d44 at h
  (repeat' (split at h))<;>first|(cases h;done)|exact Nat.le_of_ble_eq_true rfl
 unfold d44 at h
 split at h
 ·split at h
  ·rename_i a b c d e f g hcond
   injection h with h
   subst h
   have hE:SoundAll Try.prog (EL []):=EL_sound (by simp)
   have hc:=cfg_ex hcond
   have hall:=cfg_all hcond
   obtain ⟨wn,hwn⟩:∃ wn,a*b=wn:=⟨_,rfl⟩
   have hwf:=words_in (f:=f) (g:=g) (show 0≤a*b by omega) hall.2 (by omega) (by omega)
   have hgf:=mul_in (show 0≤g by omega) (show g≤15 by omega) (show 0≤f+1 by omega) (show f+1≤5 by omega)
   rw[hwn]at hall
   obtain ⟨gf,hgfe⟩:∃ z,g*(f+1)=z:=⟨_,rfl⟩
   rw[hgfe]at hgf
   have w1:IntKind.wrap .i64 wn=wn:=wrap_in (by omega) (by omega)
   have w2:IntKind.wrap .i64 (f+1)=f+1:=wrap_in (by omega) (by omega)
   have w3:IntKind.wrap .i64 gf=gf:=wrap_in (by omega) (by omega)
   have h1:=rep_t0 (c:=[.int .i64 0,.bool false,.int .i64 0,.int .i64 0,.int .i64 0]) rfl wn.toNat
   have h2:=rep_cl (c:=[.int .i64 0,.bool false,.int .i64 0,.int .i64 0,.int .i64 0]) rfl wn.toNat
   have h3:=rep_t0 (c:=[.int .i64 0,.int .i64 0,.int .i64 0,.int .i64 0,.int .i64 0]) rfl wn.toNat
   have h4:=rep_cl (c:=[.int .i64 0,.int .i64 0,.int .i64 0,.int .i64 0,.int .i64 0]) rfl wn.toNat
   have hl1:(zS wn.toNat).length=wn.toNat:=List.length_replicate ..
   have hl2:(zT wn.toNat).length=wn.toNat:=List.length_replicate ..
   simp only[hwn]
   have hT1:t0LL (zS wn.toNat)=zS wn.toNat:=h1
   have hT2:clLL (zS wn.toNat)=true:=h2
   have hT3:t0LL (zT wn.toNat)=zT wn.toNat:=h3
   have hT4:clLL (zT wn.toNat)=true:=h4
   have n0:0≤wn:=by omega
   have n1:wn≤24:=by omega
   have n2:wn*40≤281474976710656:=by omega
   have n3:wn≤9223372036854775807:=by omega
   have n4:0<wn:=by omega
   have m0:0≤gf:=by omega
   have m2:gf*48≤281474976710656:=by omega
   have m3:gf≤9223372036854775807:=by omega
   unfold m44
   repeat' with_reducible (first
    | refine ZR.h ?_ | refine zI (by decide) ?_
    | ((first | refine zK hE ?_ | refine zL hE mixT ?_);intro K hK;simp[KR.ks,KD.ks,KD.cl,q44_0,q44_1,q44_2,q44_3,q44_4,q44_5,q44_6,q44_7,hwn,w1,n0,n2,n3,n4];(repeat' (first | refine hK _ _ ?_ | refine And.intro ?_ ?_ | (intro hc;try subst hc)))<;>(try clear hK K))
    | (refine zJ (b:=_) (by with_unfolding_all rfl) (fun hc=>?_) (fun hc=>?_)<;>simp at hc<;>(try subst hc)))
   all_goals (refine Wm_loop (fun i=>I44 a b c d e f g wn (zS wn.toNat) (zT wn.toNat) i) (fun i=>i≤wn.toNat) (fun i=>wn.toNat - i) 0 (Nat.zero_le _) ?_ ?_)
   ·simp only[I44]
    rw[hS]
    refine Imp.autoX [(2,some 80),(3,some 96),(4,none)] (by kernel_rfl) ?_ ?_<;>simp[NLe,mkPlX,zS,zT,bots,h1,h2,h3,h4]
   ·intro i hi
    replace hi:i≤wn.toNat:=hi
    simp only[I44]
    have hbl:=bots_len i
    have htl:=fun n=>bots_tl n i
    by_cases hin:i<wn.toNat
    ·have hiI:(i:Int)<wn:=by omega
     have w4:IntKind.wrap .i64 ((i:Int)+1)=(i:Int)+1:=wrap_in (by omega) (by omega)
     have b1:(i+1)*24≤140737488355328:=by omega
     have b2:i+1≤9223372036854775807:=by omega
     have hgt:¬ gf<0:=by omega
     repeat' with_reducible (first
      | refine ZR.h ?_ | refine zI (by decide) ?_
      | ((first | refine zK hE ?_ | refine zL hE mixT ?_);intro K hK;simp[KR.ks,KD.ks,KD.cl,q44_0,q44_1,q44_2,q44_3,q44_4,q44_5,q44_6,q44_7,hiI,w2,w3,w4,hgfe,m0,m2,m3,hbl,b1,b2,htl];(repeat' (first | refine hK _ _ ?_ | refine And.intro ?_ ?_ | (intro hc;try subst hc)))<;>(try clear hK K))
      | (refine zJ (b:=_) (by with_unfolding_all rfl) (fun hc=>?_) (fun hc=>?_)<;>simp at hc<;>(try subst hc)))
     all_goals refine ⟨i+1,hin,Nat.sub_lt_sub_left hin (Nat.lt_succ_self i),?_⟩
     all_goals simp only[I44]
     all_goals rw[hS]
     all_goals (refine Imp.autoX [(2,some 2),(3,some 3),(4,some 133)] (by kernel_rfl) ?_ ?_<;>simp[NLe,mkPlX,h1,h2,h3,h4,bots_ren,bots_len,hT1,hT2,hT3,hT4])
    ·have hiI:¬ (i:Int)<wn:=by omega
     have hie:i=wn.toNat:=by omega
     repeat' with_reducible (first
      | refine ZR.h ?_ | refine zI (by decide) ?_
      | ((first | refine zK hE ?_ | refine zL hE mixT ?_);intro K hK;simp[KR.ks,KD.ks,KD.cl,q44_0,q44_1,q44_2,q44_3,q44_4,q44_5,q44_6,q44_7,hiI];(repeat' (first | refine hK _ _ ?_ | refine And.intro ?_ ?_ | (intro hc;try subst hc)))<;>(try clear hK K))
      | (refine zJ (b:=_) (by with_unfolding_all rfl) (fun hc=>?_) (fun hc=>?_)<;>simp at hc<;>(try subst hc)))
     all_goals (try simp)
     all_goals (refine Imp.trans (t:=E44 a b c d e f g wn (zS wn.toNat) (zT wn.toNat)) (Imp.autoX [(1,some 2),(2,some 3)] (by kernel_rfl) ?_ ?_) ?_)
     all_goals first|(simp[E44,NLe,mkPlX,hT1,hT2,hT3,hT4];done)|skip
     all_goals (refine Imp.trans (Imp.absorb (.top 0) 0 7 1 (by rfl) (by rfl) (by rfl) (.inl ⟨0,5,zS wn.toNat,by rw[hl1],by rfl⟩) (by simp)) ?_)
     all_goals (refine Imp.trans (Imp.absorb (.top 0) 0 8 2 (by rfl) (by rfl) (by rfl) (.inl ⟨0,5,zT wn.toNat,by rw[hl2],by rfl⟩) (by simp)) ?_)
     all_goals (simp only[E44,qC];refine Imp.auto (by kernel_rfl) ?_ ?_<;>simp[NLe,mkPlX,hT1,hT2,hT3,hT4,absorbG,newcell])
  ·cases h
 ·cases h
end Go.W

