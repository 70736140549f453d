/- AssembleComplete: for anything drawn the law returns true and leaves its arguments as they were. No other condition. Part 7 of 8: what the later parts need -/
import Derived.Test.YtokaoegjfpjjnaaGreatTf
set_option linter.unusedVariables false
open List (foldl_cons nil_append append_nil map_nil map_map)
open List renaming mem_of_getElem? → ank, mem_cons_of_mem → aom, mem_append → anz, map_cons → aow, mem_cons → an9, length_cons → an0, mem_cons_self → aok, length_append → aoe, length_nil → aoa, getD_eq_getElem?_getD → anm, getElem?_take → aof, getElem?_map → anr, append_assoc → aor, getElem?_eq_getElem → ano, getElem?_replicate → aoh, map_append → aoc, length_take → an6, take_of_length_le → an1, drop_zero → aov, take_length → an3, not_mem_nil → aob, length_map → anl, map_replicate → aoq, map_set → aou, length_set → aox, map_congr_left → ak1, mem_replicate → ak4, cons_append → ak5, drop_length → ak7, countP_cons_of_pos → ak8, mem_or_eq_of_mem_set → ala, any_eq_true → ald, contains_iff_mem → alf, mem_range → alh, getElem_mem → ali, getElem?_eq_some_iff → alj, countP_cons → alp, drop_eq_getElem_cons → alq, mem_singleton → alr, replicate → als, getElem?_of_mem → alt, mem_map → al0
open Nat (le_of_lt)
open Nat renaming eq_of_beq_eq_true → anw, le_refl → anp, lt_or_ge → anu, le_trans → an4, mul_le_mul_right → aod, zero_le → ans, pow_add → aoo, pow_succ → ajq, mul_pos → aju, add_sub_cancel → ajv, beq → ajx, succ_mul → aj9, pow_lt_pow_right → akh, pow_pos → aki, beq_refl → akj, blt → aks, zero_add → akv, mul_le_mul → akw
open Option renaming map_eq_some_iff → ann
open Bool renaming and_eq_true → anq, or_eq_true → aos, false_eq_true → ams, not_eq_false' → amv, eq_false_iff → amx
open Int renaming toNat_natCast → aol, natAbs_mul → al3
open Rat renaming intCast_mul → ami
open Decidable renaming not_not → anj
open Go renaming Operand → ao8, TypeId → apa, Program → apb
open Go.Proofs.Tryz
namespace Go.Lw
open Go.Proofs
structure MtOk(ts:LL)(m:Mt):Prop where
  tw:∃r,Tw m.ts r/\kB r m.ts.length<=1301000000
  two:m.ts.length<=2
  ln:m.ps.length<=2
  ps:∀x∈m.ps,Nm m.ts.length 18300000000 x.1/\Nm m.ts.length 18300000000 x.2
  up:∀(e:Nat)(y:Et ts),Nm ts.length e (sX y)->Nm m.ts.length e (sX y)/\sX (dE m.ts (sX y))=sX y
theorem Fb{ts:LL}(e:Nat)(y:Et ts)(h:Nm ts.length e (sX y)):Nm ts.length e (sX y)/\sX (dE ts (sX y))=sX y:=⟨h,ao6 (sh ts.length) (bn _ _)⟩
theorem AQ{ts:LL}{X:Et ts}(hn:ts.length<=1)(e:Nat)(y:Et ts)(h:Nm ts.length e (sX y)):Nm (aX ts (sX X)).length e (sX y)/\sX (dE (aX ts (sX X)) (sX y))=sX y:=by
 refine⟨qX h oz,?_⟩;show sh (aX ts (sX X)).length (af (aX ts (sX X)).length (sX y))=sX y;rw[e8,jy h.nl.le];show(if T.isZ ts.length (T.zero ts.length)=true then sh ts.length (af ts.length (sX y))else _)=_;rw[aoz ((T.isZ_iff _ _).2 rfl)];exact ao6 (sh ts.length) (bn _ _)
theorem wh{ts:LL}{ps:List (List Rat×List Rat)}(tw:Tw ts 132000)(hn:ts.length<=1)(hl:ps.length<=2)(hp:∀x∈ps,Nm ts.length 18300000000 x.1/\Nm ts.length 18300000000 x.2):MtOk ts ⟨ts,ps⟩ :=
 ⟨⟨132000,tw,by have:=Gh hn;show kB 132000 ts.length<=_;omega⟩,by show ts.length<=2;omega,hl,hp,Fb⟩
theorem Js{ts:LL}{X:Et ts}{ps:List (List Rat×List Rat)}(E:ExtP X)(hn:ts.length<=1)(hl:ps.length<=2)(hp:∀x∈ps,Nm (aX ts (sX X)).length 18300000000 x.1/\Nm (aX ts (sX X)).length 18300000000 x.2):MtOk ts ⟨aX ts (sX X),ps⟩ :=
 ⟨⟨433338900,E.tw,by
  have h:=kl 433338900 (show ts.length+1<=2 by omega);have h2:eB 433338900 2=1300016706:=by decide
  show eB 433338900 (aX ts (sX X)).length<=_;rw[e8];omega⟩,by show(aX ts (sX X)).length<=2;rw[e8];omega,hl,hp,AQ hn⟩
theorem uZ{ts:LL}{m:Mt}(ok:MtOk ts m){x:List Rat×List Rat}(hx:x∈m.ps){p c:Rat×Rat}{o:P2 ts}(a1:Nm ts.length 915000000 (sX o.1))(a2:Nm ts.length 915000000 (sX o.2))(hp:Sm 1000 p)(hc:Sm 1000 c)
  (h0:cf (bS c p) (bS c p)≠0):HdP m.ts x ⟨p,o.l,c⟩:=by
 obtain⟨r,tw,hk⟩:=ok.tw;obtain⟨n1,n2⟩:=ok.ps x hx;obtain⟨b1,e1⟩:=ok.up _ _ a1;obtain⟨b2,e2⟩:=ok.up _ _ a2;have hl:lm m.ts.length=200000000000:=by unfold lm;rw[aoz ok.two]
 refine⟨hp,hc,tF tw n1 b1 (by rw[hl];omega),tF tw n2 b2 (by rw[hl];omega),e1,e2,Ms tw ok.two hk ((hc.sub hp).mono oz) (hp.mono oz) h0 ((n1.sub b1).mono oz) ((n2.sub b2).mono oz) ?_ ?_⟩
 ·show Nm m.ts.length 915000000 (sX (dE m.ts (sX o.1)));rw[e1];exact b1
 ·show Nm m.ts.length 915000000 (sX (dE m.ts (sX o.2)));rw[e2];exact b2
theorem pS{α:Type}{P:α->Prop}{x y:α}(hx:P x)(hy:P y):∀z∈[x,y],P z:=by
 intro z hz;rcases an9.1 hz with rfl |hz
 ·exact hx
 ·rw[alr.1 hz];exact hy
theorem kW{α:Type}{P:α->Prop}{x:α}(hx:P x):∀z∈[x],P z:=by
 intro z hz;rw[alr.1 hz];exact hx
theorem NS{ts:LL}{x y z x2 y2 z2:Et ts}(tw:Tw ts 132000)(hn:ts.length<=1)(c:Ct ts 310000 132100)(h1:Zu 310000 132100 x 40 40)(h2:Zu 310000 132100 y 40 40)(h3:Zu 310000 132100 z 3 0)(h4:Zu 310000 132100 x2 40 40)(h5:Zu 310000 132100 y2 40 40)(h6:Zu 310000 132100 z2 3 0)
  (h0:gh (x,y) (x2,y2) z z2=0):MtOk ts (eP (x,y) (x2,y2) z z2):=by
 have P:=LV c h1 h2 h3 h4 h5 h6;have ce:=c.ex;have ck:=c.k1;have cu:=c.u3;haveI cy:Cy ts 310000 132100:=⟨ce,ck,cu,by omega⟩
 unfold gh at h0;unfold eP
 by_cases hd:ao (aC (x,y) (x2,y2))=0
 ·rw[aoz hd]at h0 ⊢;unfold mJ at h0;unfold pY
  by_cases hz:ao (z-z2)≠0
  ·rw[aoz hz];exact wh tw hn (by simp) (by simp)
  ·rw[aoy hz]
   by_cases hp:0<ao z
   ·rw[aoz ⟨anj.1 hz,hp⟩]at h0;cases h0
   ·rw[aoy hp];haveI:=h1;haveI:=h2
    refine wh tw hn (by simp) (kW ⟨?_,?_⟩)
    ·exact(ao7:Zu 310000 132100 (x+0*x) _ _).nm.mono (by decide)
    ·exact(ao7:Zu 310000 132100 (y+0*y) _ _).nm.mono (by decide)
 ·rw[aoy hd];have tk:ao (f9 (aC (x,y) (x2,y2)))≠0:=by rw[A9 tw]; exact hd
  by_cases iH:ao (bC (x,y) z (x2,y2) z2)<0
  ·rw[aoz iH];exact wh tw hn (by simp) (by simp)
  ·rw[aoy iH];obtain⟨_,_,f1,f2⟩:=PC hn h1 h2 h3 h6 P tk
   by_cases mj:ao (bC (x,y) z (x2,y2) z2)=0
   ·rw[aoz mj];exact wh tw hn (by simp) (kW ⟨f1.nm.mono (by decide),f2.nm.mono (by decide)⟩)
   ·rw[aoy mj];have E:ExtP (bC (x,y) z (x2,y2) z2):=x9 tw hn P.zX oz;have S:=M0 (X:=bC (x,y) z (x2,y2) z2) (d:=aC (x,y) (x2,y2)) (f:=dT (x,y) (x2,y2) z z2) (v:=iO (x,y) (x2,y2)) hn E P.zt tk f1 f2 P.z1 P.z2;exact Js E hn (by simp) (pS ⟨S.n1.1.nm.mono (by decide),S.n1.2.nm.mono (by decide)⟩ ⟨S.n2.1.nm.mono (by decide),S.n2.2.nm.mono (by decide)⟩)
theorem NM{ts:LL}{o p q:P2 ts}{z:Et ts}(tw:Tw ts 132000)(hn:ts.length<=1)(c:Ct ts 310000 132100)(o1:Zu 310000 132100 o.1 40 40)(o2:Zu 310000 132100 o.2 40 40)(p1:Zu 310000 132100 p.1 40 40)(p2:Zu 310000 132100 p.2 40 40)(q1:Zu 310000 132100 q.1 40 40)(q2:Zu 310000 132100 q.2 40 40)
  (i3:Zu 310000 132100 z 3 0) (h0:f7 p q=0):MtOk ts (eM p q o z):=by
 have ce:=c.ex;have ck:=c.k1;have cu:=c.u3;haveI cy:Cy ts 310000 132100:=⟨ce,ck,cu,by omega⟩
 have P:=NX cy p1 p2 q1 q2 o1 o2 i3;unfold f7 at h0;unfold eM
 by_cases hs:ao (a9 p q)=0
 ·rw[aoz hs]at h0;cases h0
 ·rw[aoy hs]
  by_cases h1:ao (aW p q o z)=-1
  ·rw[aoz h1];exact wh tw hn (by simp) (by simp)
  ·rw[aoy h1]
   by_cases h2:ao (aW p q o z)=0
   ·rw[aoz h2];have Q:=O5 cy hn p1 p2 P hs;exact wh tw hn (by simp) (kW ⟨Q.n1.nm.mono (by decide),Q.n2.nm.mono (by decide)⟩)
   ·rw[aoy h2]
    have jB:0<=ao (aW p q o z):=by
     have:=T.sgn_cases (az ts) ts.length (aW p q o z);have e:ao (aW p q o z)=T.sgn (az ts) ts.length (aW p q o z):=rfl;omega
    have E:ExtP (aW p q o z):=x9 tw hn (Gz P.zX oz oz) jB;haveI ce:=E.cy;haveI zr:Zl (aX ts (sX (aW p q o z))) 915000000 1301000000 (cW ts.length) (dE _ (cW ts.length)) 1 0:=Zl.at (yq oz) (by decide);haveI ze':=oa (X:=aW p q o z) hn P.ze (by decide);haveI:=zr.zu;haveI:=ze'.zu
    have S1:=AO (p:=p) (v:=aO q p) hn E P.zs hs p1 p2 P.v1 P.v2 (k:=aQ (aW p q o z) (bX p q o)+bM (aW p q o z)) ao7;have S2:=AO (p:=p) (v:=aO q p) hn E P.zs hs p1 p2 P.v1 P.v2 (k:=aQ (aW p q o z) (bX p q o)-bM (aW p q o z)) ao7;exact Js E hn (by simp) (pS ⟨S1.n1.nm.mono (by decide),S1.n2.nm.mono (by decide)⟩ ⟨S2.n1.nm.mono (by decide),S2.n2.nm.mono (by decide)⟩)
abbrev u6(r:List AV×Nat):AV:=.tup [.lst 3 r.1,bU r.2]
def kE(l:Li)(a:As)(i k:Int)(j0 j1 j2:Jt):List AV×Nat :=
  if jO [bS (ak l j2 i) (ak l j0 i),bS (ak l j2 k) (ak l j1 k)]=true then([],15)
  else if gh (aH l a j0 i) (aH l a j1 k) (qE (bq (ak l j2 i) (ak l j0 i))) (qE (bq (ak l j2 k) (ak l j1 k)))≠0 then([],gh (aH l a j0 i) (aH l a j1 k) (qE (bq (ak l j2 i) (ak l j0 i))) (qE (bq (ak l j2 k) (ak l j1 k))))
  else(lP (eP (aH l a j0 i) (aH l a j1 k) (qE (bq (ak l j2 i) (ak l j0 i))) (qE (bq (ak l j2 k) (ak l j1 k)))) [⟨ak l j0 i,P2.l (aH l a j0 i),ak l j2 i⟩,⟨ak l j1 k,P2.l (aH l a j1 k),ak l j2 k⟩]
    (eP (aH l a j0 i) (aH l a j1 k) (qE (bq (ak l j2 i) (ak l j0 i))) (qE (bq (ak l j2 k) (ak l j1 k)))).ps.length,0)
theorem WQ{l:Li}{a:As}(D:DyR l a)(hn:(llq a.rs).length<=1){i k z0 z1 z2:Int}{j0 j1 j2:Jt}(hg:GrOk l ⟨1,[i,k],[z0,z1,z2],0⟩)(P:RrrP 3900000 l a ⟨1,[i,k],[z0,z1,z2],0⟩ i k z0 z1 z2 j0 j1 j2) :
  Con prog 280 [.ptr 1000 0] [pP 1000 (de l ⟨1,[i,k],[z0,z1,z2],0⟩ a)] (u6 (kE l a i k j0 j1 j2)) [pP 1000 (de l ⟨1,[i,k],[z0,z1,z2],0⟩ a)]:=by
 haveI c:=D.s.ct D.hc;obtain⟨tw,etw⟩:=dg D.s.tr D.hc;have gp:=kO D.hl D.li P.h0 P.p0.or;have nI:=kO D.hl D.li P.h1 P.p1.or;have fB:=kO D.hl D.li P.h2 P.t1;have pE:=kO D.hl D.li P.h2 P.t2;obtain⟨y1,y2⟩:=re D.hl D.li D.al D.s D.hc P.h0 P.p0;obtain⟨y3,y4⟩:=re D.hl D.li D.al D.s D.hc P.h1 P.p1;haveI:=y1;haveI:=y2;haveI:=y3;haveI:=y4
 haveI q1:=vY fB gp;haveI q2:=vY pE nI;haveI z1:Zu 310000 132100 (qE (bq (ak l j2 i) (ak l j0 i)):Et (llq a.rs)) 3 0:=ao7;haveI z2:Zu 310000 132100 (qE (bq (ak l j2 k) (ak l j1 k)):Et (llq a.rs)) 3 0:=ao7;have hr:=Z0 (a:=sX (aH l a j0 i).1) (b:=sX (aH l a j0 i).2) (c:=sh 0 (bq (ak l j2 i) (ak l j0 i):Rat)) (a2:=sX (aH l a j1 k).1) (b2:=sX (aH l a j1 k).2) (c2:=sh 0 (bq (ak l j2 k) (ak l j1 k):Rat)) D.s.tr D.hc hn rfl rfl (Ex _ _) (Ex _ _);have Ip:=Qx [bS (ak l j2 i) (ak l j0 i),bS (ak l j2 k) (ak l j1 k)] (by show 2<=_;omega) (pS ((fB.sub gp).mono oz) ((pE.sub nI).mono oz));refine gF func280 (fun k z h=>bW h) ?_;refine gt (ba (Z8 D.hl D.li D.al D.hc D.two hg P.h0 P.h1 P.h2 P.p0 P.p1 P.t1 P.t2) (dJ rfl) rfl rfl rfl) ?_;refine gf ?_;refine gc (uc fB gp oz oz) ?_;refine gc (uc pE nI oz oz) ?_;refine gc Ip ?_;refine gD ?_;refine gC (fun u=>?_) (fun u=>?_)
 ·have h1:jO [bS (ak l j2 i) (ak l j0 i),bS (ak l j2 k) (ak l j1 k)]=true:=u;refine gR ?_;exact(aD.keep (bH rfl)).sub (by unfold kE;rw[aoz h1];exact Sub.tup (.cons (.nil _ _ _) (.cons (.refl _) .nil)))
 have h1:jO [bS (ak l j2 i) (ak l j0 i),bS (ak l j2 k) (ak l j1 k)]=false:=u;obtain⟨w1,w2⟩:=wb h1;refine gc (F6 gp fB _) ?_;refine gc (F6 nI pE _) ?_;refine gc hr ?_;refine gD ?_;refine gC (fun u=>?_) (fun u=>?_)
 ·have h2:=et u;refine gR ?_;exact(aD.keep (bH rfl)).sub (by unfold kE;rw[aoy (by rw[h1];decide),aoz h2];exact Sub.tup (.cons (.nil _ _ _) (.cons (.refl _) .nil)))
 have h2:=d7 u;have ok:=NS (x:=(aH l a j0 i).1) (y:=(aH l a j0 i).2) (x2:=(aH l a j1 k).1) (y2:=(aH l a j1 k).2) tw hn c y1 y2 z1 y3 y4 z2 h2;obtain⟨r9,tw9,_⟩:=ok.tw
 have kH:=Lr tw9 [⟨ak l j0 i,P2.l (aH l a j0 i),ak l j2 i⟩,⟨ak l j1 k,P2.l (aH l a j1 k),ak l j2 k⟩] (anp 2) ok.ln
  (fun x hx=>pS (uZ ok hx (y1.nm.mono (by decide)) (y2.nm.mono (by decide)) gp fB w1) (uZ ok hx (y3.nm.mono (by decide)) (y4.nm.mono (by decide)) nI pE w2))
 refine gc kH ?_;refine gR ?_;exact(aD.keep (bH rfl)).sub (.of (by unfold kE;rw[aoy (by rw[h1];decide),aoy (fun h=>h h2)];rfl))
def ki(l:Li)(a:As)(i:Int)(j0 j:Jt):List AV×Nat :=
  if jO [bS (aE l i j.point) (ak l j0 i)]=true then([],15)
  else if f7 (bh l a j.b j.on) (bh l a j.b j.to)≠0 then([],f7 (bh l a j.b j.on) (bh l a j.b j.to))
  else(lP (eM (bh l a j.b j.on) (bh l a j.b j.to) (aH l a j0 i) (qE (bq (aE l i j.point) (ak l j0 i)))) [⟨ak l j0 i,P2.l (aH l a j0 i),aE l i j.point⟩]
    (eM (bh l a j.b j.on) (bh l a j.b j.to) (aH l a j0 i) (qE (bq (aE l i j.point) (ak l j0 i)))).ps.length,0)
theorem VN{l:Li}{a:As}(D:DyR l a)(hn:(llq a.rs).length<=1){i z0 z1:Int}{j0 j:Jt}(hg:GrOk l ⟨2,[i],[z0,z1],0⟩)(P:SlP 3900000 l a ⟨2,[i],[z0,z1],0⟩ 2 i z0 z1 j0 j)(ha:j.a=i)(hb:Pd 3900000 a j.b) :
  Con prog 281 [.ptr 1000 0] [pP 1000 (de l ⟨2,[i],[z0,z1],0⟩ a)] (u6 (ki l a i j0 j)) [pP 1000 (de l ⟨2,[i],[z0,z1],0⟩ a)]:=by
 haveI c:=D.s.ct D.hc;obtain⟨tw,etw⟩:=dg D.s.tr D.hc;obtain⟨i1,i2,i3,i4,i5⟩:=dZ D.li P.h1;have fB:Sm 1000 (aE l i j.point):=by rw[<- ha];exact p6 D.hl D.li i1 i3
 have gp:=kO D.hl D.li P.h0 P.p0.or;obtain⟨y1,y2⟩:=re D.hl D.li D.al D.s D.hc P.h0 P.p0;obtain⟨y3,y4⟩:=rD D.hl D.li D.al D.s D.hc i2 i4 hb;obtain⟨y5,y6⟩:=rD D.hl D.li D.al D.s D.hc i2 (i5 P.hk) hb;haveI q1:=vY fB gp;haveI z1:Zu 310000 132100 (qE (bq (aE l i j.point) (ak l j0 i)):Et (llq a.rs)) 3 0:=ao7;have hr:=agw (o:=aH l a j0 i) (p:=bh l a j.b j.on) (q:=bh l a j.b j.to) (c:=sh 0 (bq (aE l i j.point) (ak l j0 i):Rat)) D.s.tr D.hc hn c y1 y2 y3 y4 y5 y6 (Ex _ _);have Ip:=Qx [bS (aE l i j.point) (ak l j0 i)] (by show 1<=_;omega) (kW ((fB.sub gp).mono oz));refine gF func281 (fun k z h=>bW h) ?_;refine gt (ba (Up D.hl D.li D.al D.hc D.two hg P.h0 P.h1 P.p0 ha P.hk hb) (dJ rfl) rfl rfl rfl) ?_;refine gf ?_;refine gc (uc fB gp oz oz) ?_;refine gc Ip ?_;refine gC (fun y=>?_) (fun y=>?_)
 ·have h1:jO [bS (aE l i j.point) (ak l j0 i)]=true:=y;refine gR ?_;exact(aD.keep (bH rfl)).sub (by unfold ki;rw[aoz h1];exact Sub.tup (.cons (.nil _ _ _) (.cons (.refl _) .nil)))
 have h1:jO [bS (aE l i j.point) (ak l j0 i)]=false:=y;have w1:=vu h1;refine gc (F6 gp fB _) ?_;refine gc hr ?_;refine gD ?_;refine gC (fun y=>?_) (fun y=>?_)
 ·have h2:=et y;refine gR ?_;exact(aD.keep (bH rfl)).sub (by unfold ki;rw[aoy (by rw[h1];decide),aoz h2];exact Sub.tup (.cons (.nil _ _ _) (.cons (.refl _) .nil)))
 have h2:=d7 y;have ok:=NM (o:=aH l a j0 i) (p:=bh l a j.b j.on) (q:=bh l a j.b j.to) (z:=qE (bq (aE l i j.point) (ak l j0 i))) tw hn c y1 y2 y3 y4 y5 y6 z1 h2;obtain⟨r9,tw9,_⟩:=ok.tw;have kH:=Lr tw9 [⟨ak l j0 i,P2.l (aH l a j0 i),aE l i j.point⟩] (show 1<=2 by omega) ok.ln (fun x hx=>kW (uZ ok hx (y1.nm.mono (by decide)) (y2.nm.mono (by decide)) gp fB w1));refine gc kH ?_;refine gR ?_;exact(aD.keep (bH rfl)).sub (.of (by unfold ki;rw[aoy (by rw[h1];decide),aoy (fun h=>h h2)];rfl))
theorem Ll{ts:LL}{r e:Nat}(tw:Tw ts r){a b c:List Rat}(ha:Nm ts.length e a)(hb:Nm ts.length e b)(hc:Nm ts.length e c)(he:2*(e+e+kB r ts.length)<=lm ts.length) :
  FP 382 [aZ ts,nA a,aP b c] (.tup [aP (sh ts.length (T.mul (az ts) ts.length (af ts.length a) (af ts.length b))) (sh ts.length (T.mul (az ts) ts.length (af ts.length a) (af ts.length c))),.v .nilIface]):=by
 refine am func382 ?_;refine gc (Bl (e:=e) tw [a,b,c] (by simp only[an9,aob,or_false];rintro x (rfl |rfl |rfl) <;> assumption) oz (by simp)) ?_;refine gf ?_;refine gt (aR (Con.rB 24 rfl rfl rfl rfl (p9 tw ha hb oz)) (aV rfl rfl rfl) aT rfl rfl) ?_;refine gt (aR (Con.rB 24 rfl rfl rfl rfl (p9 tw ha hc oz)) (aV rfl rfl rfl) aT rfl rfl) ?_;refine gt (aR (Con.rB 24 rfl rfl rfl rfl (B6 _ _ _)) (b8 rfl rfl) aT rfl rfl) ?_;refine gD ?_;refine bO ?_;rfl
section
variable{ts:LL}
def zY(q w1 w2 h:Et ts):Et ts:=q*w1-h*-w2
def yg(q w1 w2 h:Et ts):Et ts:=q*w2-h*w1
def r5(ts:LL)(q h d:List Rat)(w:List Rat×List Rat):P2 ts:=(zY (dE ts q) (dE ts w.1) (dE ts w.2) (dE ts h)*iE (dE ts d),yg (dE ts q) (dE ts w.1) (dE ts w.2) (dE ts h)*iE (dE ts d))
structure Rp where
  v:Rat×Rat
  p:Rat×Rat
  a:List Rat×List Rat
  h:List Rat
  d:List Rat
  w:List Rat×List Rat
def sP(ts:LL)(R:Rp)(q:List Rat):Pq:=jK R.v (r5 ts q R.h R.d R.w) R.p (dE ts R.a.1,dE ts R.a.2)
structure RqP(ts:LL)(R:Rp)(q:List Rat):Prop where
  sm:Sm 3000 R.v
  sp:Sm 3000 R.p
  c1:FP 382 [aZ ts,nA q,aP R.w.1 R.w.2] (.tup [aP (sX (dE ts q*dE ts R.w.1)) (sX (dE ts q*dE ts R.w.2)),.v .nilIface])
  ng:FP 128 [aZ ts,nA R.w.2] (.tup [nA (sX (-dE ts R.w.2)),.v .nilIface])
  c2:FP 382 [aZ ts,nA R.h,aP (sX (-dE ts R.w.2)) R.w.1] (.tup [aP (sX (dE ts R.h*-dE ts R.w.2)) (sX (dE ts R.h*dE ts R.w.1)),.v .nilIface])
  sb:FP 98 [aZ ts,aP (sX (dE ts q*dE ts R.w.1)) (sX (dE ts q*dE ts R.w.2)),aP (sX (dE ts R.h*-dE ts R.w.2)) (sX (dE ts R.h*dE ts R.w.1))] (.tup [aP (sX (zY (dE ts q) (dE ts R.w.1) (dE ts R.w.2) (dE ts R.h))) (sX (yg (dE ts q) (dE ts R.w.1) (dE ts R.w.2) (dE ts R.h))),.v .nilIface])
  d1:FP 350 [aZ ts,nA (sX (zY (dE ts q) (dE ts R.w.1) (dE ts R.w.2) (dE ts R.h))),nA R.d] (.tup [nA (sX (r5 ts q R.h R.d R.w).1),.v .nilIface])
  d2:FP 350 [aZ ts,nA (sX (yg (dE ts q) (dE ts R.w.1) (dE ts R.w.2) (dE ts R.h))),nA R.d] (.tup [nA (sX (r5 ts q R.h R.d R.w).2),.v .nilIface])
  e1:sX (dE ts R.a.1)=R.a.1
  e2:sX (dE ts R.a.2)=R.a.2
  b:BdP ts R.v (r5 ts q R.h R.d R.w) R.p (dE ts R.a.1,dE ts R.a.2)
theorem RqP.body{R:Rp}{q:List Rat}(H:RqP ts R q) :
  Con prog 374 [.ptr 1000 0,qP R.v,eH (r5 ts q R.h R.d R.w).l,qP R.p,aP R.a.1 R.a.2] [pP 1000 (bt ts)] (sP ts R q).av [pP 1000 (bt ts)]:=by
 have hb:=Fk H.sm H.sp H.b
 have e:eH (P2.l ((dE ts R.a.1,dE ts R.a.2):P2 ts))=aP R.a.1 R.a.2:=by
  show aP (sX (dE ts R.a.1)) (sX (dE ts R.a.2))=_;rw[H.e1,H.e2]
 rw[e]at hb;exact hb
theorem I8{R:Rp}{q:List Rat}{j:Nat}(cy:Cy ts 915000000 1301000000)(sm:Sm 3000 R.v)(sp:Sm 3000 R.p)(h0:cf R.v R.v≠0)(nq:Nm ts.length 915000000 q)(nh:Nm ts.length 915000000 R.h)(nd:Nm ts.length 915000000 R.d)
  (n1:Nm ts.length 915000000 R.w.1) (n2:Nm ts.length 915000000 R.w.2) (a1:Nm ts.length 915000000 R.a.1) (a2:Nm ts.length 915000000 R.a.2) (e1:sX (dE ts R.a.1)=R.a.1) (e2:sX (dE ts R.a.2)=R.a.2)
  (nj:Nl j R.d) (hj:j<=ts.length) (xd:j<=1) (hd:ao (dE ts R.d)≠0):RqP ts R q:=by
 obtain⟨r,tw,hk⟩:=cy.ex;have hl:=cy.lm;haveI:=cy;haveI zq:Zl ts 915000000 1301000000 q (dE ts q) 1 0:=Zl.at nq (anp _);haveI zh:Zl ts 915000000 1301000000 R.h (dE ts R.h) 1 0:=Zl.at nh (anp _);haveI zd:Zl ts 915000000 1301000000 R.d (dE ts R.d) 1 0:=Zl.at nd (anp _);haveI z1:Zl ts 915000000 1301000000 R.w.1 (dE ts R.w.1) 1 0:=Zl.at n1 (anp _);haveI z2:Zl ts 915000000 1301000000 R.w.2 (dE ts R.w.2) 1 0:=Zl.at n2 (anp _);haveI:=zq.zu;haveI:=zh.zu;haveI:=z1.zu;haveI:=z2.zu
 haveI zn:Zu 915000000 1301000000 (-dE ts R.w.2) 1 0:=ao7;haveI y1:Zu 915000000 1301000000 (dE ts q*dE ts R.w.1) 2 1:=ao7;haveI y2:Zu 915000000 1301000000 (dE ts q*dE ts R.w.2) 2 1:=ao7;haveI y3:Zu 915000000 1301000000 (dE ts R.h*-dE ts R.w.2) 2 1:=ao7;haveI y4:Zu 915000000 1301000000 (dE ts R.h*dE ts R.w.1) 2 1:=ao7;haveI x1:Zu 915000000 1301000000 (zY (dE ts q) (dE ts R.w.1) (dE ts R.w.2) (dE ts R.h)) 4 3:=(ao7:Zu 915000000 1301000000 (dE ts q*dE ts R.w.1-dE ts R.h*-dE ts R.w.2) 4 3)
 haveI x2:Zu 915000000 1301000000 (yg (dE ts q) (dE ts R.w.1) (dE ts R.w.2) (dE ts R.h)) 4 3:=(ao7:Zu 915000000 1301000000 (dE ts q*dE ts R.w.2-dE ts R.h*dE ts R.w.1) 4 3)
 have ew:∀x:Et ts,af ts.length (sX x)=x:=fun x=>bn _ _
 have hkB:kB r ts.length<=1301000000:=hk;have c1:=Ll tw nq n1 n2 (by rw[hl];omega);have ng:=Ki (ts:=ts) (u:=915000000) (k:=1301000000) (a:=R.w.2) (by decide);have nn:Nm ts.length 915000000 (sX (-dE ts R.w.2)):=zn.nm.mono (by decide);have c2:=Ll tw nh nn n1 (by rw[hl];omega);rw[ew]at c2;have sb:=OA (a:=sX (dE ts q*dE ts R.w.1)) (b:=sX (dE ts q*dE ts R.w.2)) (c:=sX (dE ts R.h*-dE ts R.w.2)) (d:=sX (dE ts R.h*dE ts R.w.1)) tw y1.nm y2.nm y3.nm y4.nm (by rw[hl];decide);rw[ew,ew,ew,ew]at sb;have d1:=vm (ts:=ts) (u:=915000000) (k:=1301000000) (a:=sX (zY (dE ts q) (dE ts R.w.1) (dE ts R.w.2) (dE ts R.h))) (b:=R.d) nj hj xd hd (by decide);have d2:=vm (ts:=ts) (u:=915000000) (k:=1301000000) (a:=sX (yg (dE ts q) (dE ts R.w.1) (dE ts R.w.2) (dE ts R.h))) (b:=R.d) nj hj xd hd (by decide);exact⟨sm,sp,c1,ng,c2,sb,d1.1,d2.1,e1,e2,Ms tw cy.two hkB sm sp h0 (d1.2.nm.mono (by decide)) (d2.2.nm.mono (by decide)) (by show Nm ts.length 915000000 (sX (dE ts R.a.1));rw[e1];exact a1) (by show Nm ts.length 915000000 (sX (dE ts R.a.2));rw[e2];exact a2)⟩
end
def lM(ts:LL)(R:Rp)(qs:LL)(i:Nat):Sv:=⟨ts,[sP ts R (qs.getD i [])],if qs.length=1 then 0 else 1-2*(i:Int)⟩
def oB(ts:LL)(R:Rp)(qs:LL)(n:Nat):List AV:=(List.range n).map fun i=>(lM ts R qs i).av
theorem Gu(ts:LL)(R:Rp)(qs:LL)(n:Nat):(oB ts R qs n).length=n:=by simp[oB]
theorem WI(ts:LL)(R:Rp)(qs:LL)(n:Nat):oB ts R qs (n+1)=oB ts R qs n++[(lM ts R qs n).av]:=by unfold oB;rw[List.range_succ];simp
def er(l:Li)(a:As)(i:Int)(j0 j:Jt):Rp:=⟨cP l i j,ak l j0 i,P2.l (aH l a j0 i),sh 0 (cB l i j0 j:Rat),sX (cH l a i j0 j),P2.l (cE l a i j0 j)⟩
def bD(l:Li)(a:As)(i:Int)(j0 j:Jt):Et (llq a.rs):=qE (jY l i j)*cH l a i j0 j-qE (cB l i j0 j)*qE (cB l i j0 j)
def jg(l:Li)(a:As)(i:Int)(j0 j:Jt):List AV×Nat :=
  if ao (cH l a i j0 j)=0/\ao (qE (cB l i j0 j):Et (llq a.rs))=0 then([],15)
  else if ao (bD l a i j0 j)<0 then([],0)
  else if 0<ao (bD l a i j0 j)then(oB (aX (llq a.rs) (sX (bD l a i j0 j))) (er l a i j0 j) [cW (llq a.rs).length,sX (-bM (bD l a i j0 j))] 2,0)
  else(oB (llq a.rs) (er l a i j0 j) [[]] 1,0)
theorem vi{ts:LL}{r:Nat}(tw:Tw ts r){n d h:Et ts}(hs:¬ao (n*d-h*h)<0)(h1:¬(ao d=0/\ao h=0)):ao d≠0:=by
 intro h0;have S:=eG (az ts) ts.length tw.pos
 have e1:sg (az ts) ts.length (n*d)=0:=by
  rw[S.mul];have:sg (az ts) ts.length d=0:=h0;rw[this];exact Int.mul_zero _
 have e2:=S.zadd (y:=-(h*h)) e1;rw[show n*d+-(h*h)=n*d-h*h by grind,S.neg,S.mul]at e2;have e3:ao (n*d-h*h)=sg (az ts) ts.length (n*d-h*h):=rfl;have e4:ao h=sg (az ts) ts.length h:=rfl;have h2:sg (az ts) ts.length h≠0:=fun h9=>h1 ⟨h0,by rw[e4];exact h9⟩
 rw[e3,e2]at hs;rcases S.cs h with g |g |g
 ·rw[g]at hs;exact hs (by decide)
 ·exact h2 g
 ·rw[g]at hs;exact hs (by decide)
theorem agh{p q:Rat}(h:p*p+q*q=0):p=0/\q=0:=by
 have h1:=pN p;have h2:=pN q;have h3:p*p=0:=by grind
 have h4:q*q=0:=by grind
 exact⟨by rcases Rat.mul_eq_zero.1 h3 with g |g <;> exact g,by rcases Rat.mul_eq_zero.1 h4 with g |g <;> exact g⟩
theorem tu{l:Li}(au:aM l=0){n:Nat}{j:Jt}(hj:l.jo[n]?=some j)(hk:j.kind≠0){i:Int}(hi:j.b=i):cf (cP l i j) (cP l i j)≠0:=by
 intro h0;obtain⟨h1,h2⟩:=agh h0;have h3:=MJ au hj;subst hi;have e1:(aE l j.b j.to).1-(aE l j.b j.on).1=0:=h1;have e2:(aE l j.b j.to).2-(aE l j.b j.on).2=0:=h2;have e3:((dw l j.b).getD j.on.toNat default).x.q=((dw l j.b).getD j.to.toNat default).x.q:=by unfold aE at e1;dsimp only at e1;grind
 have e4:((dw l j.b).getD j.on.toNat default).y.q=((dw l j.b).getD j.to.toNat default).y.q:=by unfold aE at e2;dsimp only at e2;grind
 unfold f8 at h3;split at h3
 ·cases h3
 ·split at h3
  ·cases h3
  ·split at h3
   ·cases h3
   ·split at h3
    ·cases h3
    ·split at h3
     ·cases h3
     ·first |(rw[aoz ⟨e3,e4⟩]at h3;cases h3) |(split at h3 <;> first |(cases h3;done) |(rename_i g;exact ao5 ⟨e3,e4⟩ g))
theorem RW:Sub (.lst 1 [nS]) (.lst 1 [nA []]):=by
 refine Sub.lst rfl (fun i x y hx hy=>?_)
 match i,hx,hy with
 |0,hx,hy =>
  cases hx;cases hy
  refine⟨rfl,fun j x y hx hy=>?_⟩
  match j,hx,hy with
  |0,hx,hy=>cases hx;cases hy;exact⟨rfl,.nil _ _ _⟩
theorem aeu{x y:Int}(h:cond (aa .eql x 0) (aa .eql y 0) false=true):x=0/\y=0:=by
 cases h1:aa .eql x 0
 ·rw[h1]at h;cases h
 ·rw[h1]at h;exact⟨dI h1,dI h⟩
theorem ZD{x y:Int}(h:cond (aa .eql x 0) (aa .eql y 0) false=false):¬(x=0/\y=0):=by
 rintro⟨rfl,rfl⟩;cases h
structure RpF(l:Li)(a:As)(i:Int)(j0 j:Jt):Prop where
  hv:Sm 3000 (cP l i j)
  hp:Sm 3000 (ak l j0 i)
  vv:cf (cP l i j) (cP l i j)≠0
  zl:Zl (llq a.rs) 310000 132100 (sh 0 (cB l i j0 j:Rat)) (qE (cB l i j0 j)) 3 0
  z3:Zu 310000 132100 (cH l a i j0 j) 320 327
  zX:Zu 310000 132100 (bD l a i j0 j) 976 989
  w1:Zu 310000 132100 (cE l a i j0 j).1 80 81
  w2:Zu 310000 132100 (cE l a i j0 j).2 80 81
  y1:Zu 310000 132100 (aH l a j0 i).1 40 40
  y2:Zu 310000 132100 (aH l a j0 i).2 40 40
theorem NV{l:Li}{a:As}(D:DyR l a)(hn:(llq a.rs).length<=1){g:Gr}{i z0 z1:Int}{j0 j:Jt}(P:SlP 3900000 l a g 3 i z0 z1 j0 j)(hj:j.b=i)(hb:Pd 3900000 a j.a):RpF l a i j0 j:=by
 haveI c:=D.s.ct D.hc;have ck:=c.k1;haveI cy:Cy (llq a.rs) 310000 132100:=⟨c.ex,c.k1,c.u3,by omega⟩
 have iw:Sm 1000 (ak l j0 i):=kO D.hl D.li P.h0 P.p0.or;obtain⟨i1,i2,i3,i4,i5⟩:=dZ D.li P.h1;have gK:Sm 1000 (aE l i j.on):=by rw[<- hj];exact p6 D.hl D.li i2 i4
 have oy:Sm 1000 (aE l i j.to):=by rw[<- hj];exact p6 D.hl D.li i2 (i5 P.hk)
 have hv:Sm _ (cP l i j):=oy.sub gK;haveI qn:Qz 310000 (jY l i j) 3:=y9 (hv.dot hv) oz;haveI qh:Qz 310000 (cB l i j0 j) 3:=y9 (hv.cross (gK.sub iw)) oz;obtain⟨w1,w2⟩:=Ov D P.h0 P.p0 P.h1 hb;obtain⟨y1,y2⟩:=re D.hl D.li D.al D.s D.hc P.h0 P.p0;haveI:=w1;haveI:=w2
 haveI z3:Zu 310000 132100 (cH l a i j0 j) 320 327:=(ao7:Zu 310000 132100 (dotE (cE l a i j0 j).1 (cE l a i j0 j).2 (cE l a i j0 j).1 (cE l a i j0 j).2) _ _)
 exact⟨hv.mono oz,iw.mono oz,tu D.li P.h1 P.hk hj,Cy.zq,z3,Gz (ao7:Zu 310000 132100 (qE (jY l i j)*cH l a i j0 j-qE (cB l i j0 j)*qE (cB l i j0 j)) _ _) (by decide) (by decide),w1,w2,y1,y2⟩
theorem Jk{l:Li}{a:As}{i:Int}{j0 j:Jt}(F:RpF l a i j0 j)(tw:Tw (llq a.rs) 132000)(hn:(llq a.rs).length<=1)(fh:ao (cH l a i j0 j)≠0)(hp:0<=ao (bD l a i j0 j)) :
  ExtP (bD l a i j0 j)/\RqP (aX (llq a.rs) (sX (bD l a i j0 j))) (er l a i j0 j) (cW (llq a.rs).length)/\RqP (aX (llq a.rs) (sX (bD l a i j0 j))) (er l a i j0 j) (sX (-bM (bD l a i j0 j))) /\
  FP 128 [aZ (aX (llq a.rs) (sX (bD l a i j0 j))),nA (cW (llq a.rs).length)] (.tup [nA (sX (-bM (bD l a i j0 j))),.v .nilIface]):=by
 have E:ExtP (bD l a i j0 j):=x9 tw hn F.zX hp;have ce:=E.cy;have zr:Nm (aX (llq a.rs) (sX (bD l a i j0 j))).length 915000000 (cW (llq a.rs).length):=(yq oz).mono (by decide);haveI zrl:Zl (aX (llq a.rs) (sX (bD l a i j0 j))) 915000000 1301000000 (cW (llq a.rs).length) (bM (bD l a i j0 j)) 1 0:=Zl.at zr (by decide);haveI:=zrl.zu;have xj:=Ki (ts:=aX (llq a.rs) (sX (bD l a i j0 j))) (u:=915000000) (k:=1301000000) (a:=cW (llq a.rs).length) (by decide);have zn:Nm (aX (llq a.rs) (sX (bD l a i j0 j))).length 915000000 (sX (-bM (bD l a i j0 j))):=(ao7:Zu 915000000 1301000000 (-bM (bD l a i j0 j)) 1 0).nm.mono (by decide)
 have hR:∀q,Nm (aX (llq a.rs) (sX (bD l a i j0 j))).length 915000000 q->RqP (aX (llq a.rs) (sX (bD l a i j0 j))) (er l a i j0 j) q:=fun q nq =>
  I8 (R:=er l a i j0 j) (j:=(llq a.rs).length) ce F.hv F.hp F.vv nq (qX (F.zl.nm.mono (by decide)) oz) (qX (F.z3.nm.mono (by decide)) oz) (qX (F.w1.nm.mono (by decide)) oz) (qX (F.w2.nm.mono (by decide)) oz)
   (qX (F.y1.nm.mono (by decide)) oz) (qX (F.y2.nm.mono (by decide)) oz) (AQ hn _ _ F.y1.nm).2 (AQ hn _ _ F.y2.nm).2 F.z3.nm.nl (by rw[e8];omega) hn (by rw[show ao (dE (aX (llq a.rs) (sX (bD l a i j0 j))) (er l a i j0 j).d)=ao (cH l a i j0 j)from um];exact fh)
 exact⟨E,hR _ zr,hR _ zn,xj⟩
theorem ON{l:Li}{a:As}{i:Int}{j0 j:Jt}(F:RpF l a i j0 j)(tw:Tw (llq a.rs) 132000)(hn:(llq a.rs).length<=1)(fh:ao (cH l a i j0 j)≠0):Cy (llq a.rs) 915000000 1301000000/\RqP (llq a.rs) (er l a i j0 j) []:=by
 have cs:Cy (llq a.rs) 915000000 1301000000:=⟨⟨132000,tw,by show kB 132000 (llq a.rs).length<=_;have:=Gh hn;omega⟩,by omega,by omega,by omega⟩
 have nil0:Nm (llq a.rs).length 915000000 []:=⟨tw.five,.inl rfl,Cb.nil.mono oz⟩
 exact ⟨cs,I8 (R:=er l a i j0 j) (j:=(llq a.rs).length) cs F.hv F.hp F.vv nil0 (F.zl.nm.mono (by decide)) (F.z3.nm.mono (by decide)) (F.w1.nm.mono (by decide)) (F.w2.nm.mono (by decide))
   (F.y1.nm.mono (by decide)) (F.y2.nm.mono (by decide)) (Fb _ _ F.y1.nm).2 (Fb _ _ F.y2.nm).2 F.z3.nm.nl (anp _) hn (by rw[show ao (dE (llq a.rs) (er l a i j0 j).d)=ao (cH l a i j0 j)from ao6 ao (bn _ _)];exact fh)⟩
theorem V4{l:Li}{a:As}(D:DyR l a)(hn:(llq a.rs).length<=1){i z0 z1:Int}{j0 j:Jt}(hg:GrOk l ⟨3,[i],[z0,z1],0⟩)(P:SlP 3900000 l a ⟨3,[i],[z0,z1],0⟩ 3 i z0 z1 j0 j)(hj:j.b=i)(hb:Pd 3900000 a j.a) :
  Con prog 282 [.ptr 1000 0] [pP 1000 (de l ⟨3,[i],[z0,z1],0⟩ a)] (u6 (jg l a i j0 j)) [pP 1000 (de l ⟨3,[i],[z0,z1],0⟩ a)]:=by
 haveI c:=D.s.ct D.hc;obtain⟨tw,etw⟩:=dg D.s.tr D.hc;haveI cy:Cy (llq a.rs) 310000 132100:=⟨c.ex,c.k1,c.u3,by omega⟩
 have dW:=cy.lm;have F:=NV D hn P hj hb;obtain⟨i1,i2,i3,i4,i5⟩:=dZ D.li P.h1;have iw:Sm 1000 (ak l j0 i):=kO D.hl D.li P.h0 P.p0.or;have gK:Sm 1000 (aE l i j.on):=by rw[<- hj];exact p6 D.hl D.li i2 i4
 have oy:Sm 1000 (aE l i j.to):=by rw[<- hj];exact p6 D.hl D.li i2 (i5 P.hk)
 have hv:Sm _ (cP l i j):=oy.sub gK;haveI qn:Qz 310000 (jY l i j) 3:=y9 (hv.dot hv) oz;haveI qh:Qz 310000 (cB l i j0 j) 3:=y9 (hv.cross (gK.sub iw)) oz;haveI z3:=F.z3;haveI zX:=F.zX;haveI zl:=F.zl;have bA:=V9 D (i:=i) (j0:=j0) (j:=j) (by decide);have m1:=Gc (ts:=llq a.rs) (u:=310000) (k:=132100) (a:=sX (bD l a i j0 j)) (by decide);have m2:=Gc (ts:=llq a.rs) (u:=310000) (k:=132100) (a:=sX (cH l a i j0 j)) (by decide);have m3:=Gc (ts:=llq a.rs) (u:=310000) (k:=132100) (a:=sh 0 (cB l i j0 j:Rat)) (by decide);refine gF func282 (fun k z h=>bW h) ?_ (2,0);refine gW (Wk.o (sl:=[pP 0 (.ptr 1000 0),pP 4 (.ptr 24 0)]) (hp:=[pP 1000 (de l ⟨3,[i],[z0,z1],0⟩ a),pP 24 (cr a.rs)])) ?_;refine gt (aR (Con.rekeyBB 1000 24 (by decide) (by decide) rfl rfl rfl rfl rfl rfl (YJ D hg P.h0 P.h1 P.p0 hj P.hk hb)) (b8 rfl rfl) aT rfl rfl) ?_;refine gt (aR (Con.rekeyB1 24 rfl rfl rfl rfl rfl bA) (b8 rfl rfl) aT rfl rfl) ?_ (4,0);refine gW (Wk.of (sl:=[pP 4 (.ptr 24 0),pP 5 (.ptr 5 0),pP 6 (nA (sX (bD l a i j0 j)))]) (hp:=[pP 1000 (de l ⟨3,[i],[z0,z1],0⟩ a),pP 5 (.box (vT l a i j0 j)),pP 24 (bt (llq a.rs))]) bg (.k (.k (.cons rfl (BlkSub.bL (.cons (.of (oV etw)) (.cons (.refl _) .nil)) rfl) .nil)))) ?_;refine gt (ba (Con.rB 24 rfl rfl rfl rfl m1) (b8 rfl rfl) rfl rfl rfl) ?_;refine gf ?_;refine gt (ba (Con.rB 24 rfl rfl rfl rfl m2) (b8 rfl rfl) rfl rfl rfl) ?_;refine gu (gy rfl rfl rfl (fun h=>ba (Con.rB 24 rfl rfl rfl rfl m3) (.cons (.opt rfl (o1 h)) (.cons (.opt rfl (o1 h)) .nil)) rfl rfl rfl)) ?_;refine gC (fun y=>?_) (fun y=>?_)
 ·have h1:=aeu y;refine gR ?_;exact(aD.keep (bH rfl)).sub (by unfold jg;rw[aoz h1];exact Sub.tup (.cons (.nil _ _ _) (.cons (.refl _) .nil)))
 have h1:=ZD y;refine gC (fun y=>?_) (fun y=>?_)
 ·have h2:ao (bD l a i j0 j)<0:=ao1 y;refine gR ?_;exact(aD.keep (bH rfl)).sub (by unfold jg;rw[aoy h1,aoz h2];exact Sub.tup (.cons (.nil _ _ _) (.cons (.refl _) .nil)))
 have h2:¬ao (bD l a i j0 j)<0:=ao2 y;have fh:ao (cH l a i j0 j)≠0:=vi tw h2 h1;refine Fx [4,5] [1000,5] (fun(T:LL)(qs:LL)=>[pP 8 (.lst 1 (qs.map nA))]) (fun T _=>[pP 24 (bt T)]) (fun T qs=>Cy T 915000000 1301000000/\qs.length<=2/\(∀q∈qs,RqP T (er l a i j0 j) q)/\jg l a i j0 j=(oB T (er l a i j0 j) qs qs.length,0)) ?_ ?_
 ·intro K1 J1;refine gC (fun y=>?_) (fun y=>?_)
  ·have h3:0<ao (bD l a i j0 j):=ao1 y;obtain⟨E,R1,R2,xj⟩:=Jk F tw hn fh oz;have ce:=E.cy;have j5:=PZ (a:=sX (bD l a i j0 j)) tw zX.nm (by rw[dW];decide) (by rw[show af (llq a.rs).length (sX (bD l a i j0 j))=bD l a i j0 j from bn _ _];show 0<=ao (bD l a i j0 j);omega);refine gc j5 ?_;refine gf ?_;refine gc xj ?_;refine gt (ba (Con.rB 24 rfl rfl rfl rfl (vS _ _)) (aV rfl rfl rfl) rfl rfl rfl) ?_;exact wB J1 (aX (llq a.rs) (sX (bD l a i j0 j))) ([cW (llq a.rs).length,sX (-bM (bD l a i j0 j))]) ⟨ce,anp 2,pS R1 R2,by unfold jg;rw[aoy h1,aoy h2,aoz h3];rfl⟩
  have h3:¬0<ao (bD l a i j0 j):=ao2 y;obtain⟨cs,R0⟩:=ON F tw hn fh;exact wB J1 (llq a.rs) ([[]]) ⟨cs,by decide,kW R0,by unfold jg;rw[aoy h1,aoy h2,aoy h3];rfl⟩ (hw:=Wk.of (.cons rfl RW (.k (.k .nil))) (.k (.k (.k .nil))))
 rintro T qs ⟨ct,tc,hq,hR⟩;obtain⟨rr,twT,hkT⟩:=ct.ex;refine gl ?_;refine gW (Wk.virt 900 3 rfl) ?_;refine aY [4,5,8,90,91] [1000,5,24] (fun(q:Nat)=>[pP 12 (.ms 900 3 0 q),pP 92 (i64 q)]) (fun q=>[pP 900 (.row 3 (oB T (er l a i j0 j) qs q))]) (fun q=>q<=qs.length) (fun q=>qs.length-q) 0 (ans _) ?_;rintro q hqi K2 J2;refine gC (fun y=>?_) (fun y=>?_) (st2:=(28,0))
 ·have ah:=bf y;obtain⟨x,hx⟩:=aB ah;have Io:qs.getD q []=x:=aw hx;have R:=hq x (ank hx);refine gi (aL hx) ?_;refine gc R.c1 ?_;refine gt (ba (Con.rB 24 rfl rfl rfl rfl (CE _ _ _)) (aV rfl rfl rfl) rfl rfl rfl) ?_;refine gD ?_;refine gc R.ng ?_;refine gt (ba (Con.rB 24 rfl rfl rfl rfl (vS _ _)) (aV rfl rfl rfl) rfl rfl rfl) ?_;refine gc R.c2 ?_;refine gt (ba (Con.rB 24 rfl rfl rfl rfl (CE _ _ _)) (aV rfl rfl rfl) rfl rfl rfl) ?_;refine gD ?_;refine gc R.sb ?_;refine gt (ba (Con.rB 24 rfl rfl rfl rfl (CE _ _ _)) (aV rfl rfl rfl) rfl rfl rfl) ?_;refine gD ?_;refine gt (ba (Con.rB 24 rfl rfl rfl rfl (CA R.d1)) (aV rfl rfl rfl) rfl rfl rfl) ?_;refine gt (ba (Con.rB 24 rfl rfl rfl rfl (CA R.d2)) (aV rfl rfl rfl) rfl rfl rfl) ?_;refine gD ?_;refine gc (EY twT) ?_;refine gt (ba (Con.rB 24 rfl rfl rfl rfl R.body) (.cons (.tmp rfl) (.cons (.tmp rfl) (.cons (.tmp rfl) (.cons (.tmp rfl) (.cons (.tmp rfl) .nil))))) rfl rfl rfl) ?_;refine gl ?_;refine gc (KB q qs.length oz) ?_;refine gs (cZ (.tmp rfl) rfl (Gu _ _ _ _).symm (.tmp rfl) T252 rfl T257 rfl rfl (by dsimp only; simp only [an0,aoa]; omega) rfl rfl) ?_;refine gD ?_ (27,0);refine gW (Wk.of (sl:=[pP 4 (.ptr 24 0),pP 5 (.ptr 5 0),pP 8 (.lst 1 (qs.map nA)),pP 12 (.ms 182 3 0 (q+1)),pP 90 (.lst 1 (qs.map nA)),pP 91 (i64 qs.length),pP 92 (i64 q)]) (hp:=[pP 1000 (de l ⟨3,[i],[z0,z1],0⟩ a),pP 5 (.box (vT l a i j0 j)),pP 24 (bt T),pP 182 (.row 3 (oB T (er l a i j0 j) qs (q+1)))]) bg (.k (.k (.k (.cons rfl (.of (by rw[WI]; unfold lM; rw[Io]; rfl)) .nil))))) ?_ (27,0)
  refine gW (Wk.rk (k:=182) (d:=900) rfl rfl) ?_;refine ga aU ?_;exact aS J2 (q+1) ah
 have ah:=bu hqi y;subst ah;refine gW ((Wk.freeze (k:=900) rfl).trans<|Wk.of (sl:=[pP 4 (.ptr 24 0),pP 12 (.lst 3 (oB T (er l a i j0 j) qs qs.length))]) (hp:=[pP 1000 (de l ⟨3,[i],[z0,z1],0⟩ a),pP 24 (bt T)]) (.k (.cons rfl (.of (by rw[cz (Gu _ _ _ _).symm])) .nil)) (.k (.k .nil))) ?_;refine gf ?_;refine gR ?_;exact(aD.keep (bH rfl)).sub (.of (by rw[hR];rfl))
theorem W6:Sub (.agg [bl (rt ((1:Int):Rat)).neg,ws (rt ((1:Int):Rat)).num,ws (rt ((1:Int):Rat)).den,.v (.bool false),nS,nS]) (qP (((1:Int):Rat),0)) :=
 Sub.agg (.cons (.refl _) (.cons (.refl _) (.cons (.refl _) (.cons (.refl _) (.cons (Sub.nil _ _ _) (.cons (Sub.nil _ _ _) .nil)))))) rfl
theorem yD{ts:LL}(q:Rat):sX (qE q:Et ts)=sh 0 (q:Rat):=ED _ _
def oF(l:Li)(a:As)(i:Int)(j0:Jt)(x:Tn):Pq:=jK (((1:Int):Rat),0) ((qE (d8 x.half x.t.q),qE (d6 x.half x.t.q)):P2 (llq a.rs)) (ak l j0 i) (aH l a j0 i)
def no(l:Li)(a:As)(i:Int)(j0:Jt)(x:Tn):List AV×Nat:=if x.err≠0 then([],x.err)else([(⟨llq a.rs,[oF l a i j0 x],1⟩:Sv).av],0)
theorem ad2{l:Li}{g:Gr}{a:As}{x:Tn}(hx:x.t.ok)(hq:Qb 1000 x.t.q)(he:x.err≠0) :
  Con prog 279 [.ptr 1000 0,x.av] [pP 1000 (de l g a)] (.tup [.lst 3 [],bU x.err]) [pP 1000 (de l g a)]:=by
 refine gF func279 (fun k z h=>bW h) ?_;refine gc (LK x hx hq oz) ?_;refine gC (fun y=>?_) (fun y=>?_) (st2:=(77777,0))
 ·refine gR ?_;exact(aD.keep (bH rfl)).sub (Sub.tup (.cons (.nil _ _ _) (.cons (.refl _) .nil)))
 exact ao5 (d7 y) he
theorem Kq:Sm 3000 (((1:Int):Rat),(0:Rat)):=⟨Qb.one.mono oz,Qb.mono (e:=1) (q:=0) ⟨by decide,by decide⟩ oz⟩
theorem KQ{E:Nat}(hE:E<=20000000000){l:Li}{a:As}(D:DyW l a)(h3:(llq a.rs).length<=2){body pt:Int}(h1:bT body l.bo.length=true)(h2:bT pt (dw l body).length=true)(hb:Pd E a body) :
  Nm (llq a.rs).length 62500000000 (sX (bh l a body pt).1)/\Nm (llq a.rs).length 62500000000 (sX (bh l a body pt).2):=by
 obtain⟨n,k,bd,m,b,hp⟩:=B9 D.hl D.li D.al D.hc h1 h2 hb;obtain⟨tw,_⟩:=dg D.al.tr D.hc;have kb:=Ph h3;have qx:Qb 1000 m.x.q:=by rw[hp.mp.ex,b7];exact hp.mp.sm.x
 have qy:Qb 1000 m.y.q:=by rw[hp.mp.ey,b7];exact hp.mp.sm.y
 have h:=Hj tw hp.ok qx qy;unfold bh;rw[hp.eq];exact⟨h.1.mono oz,h.2.mono oz⟩
theorem VM{E:Nat}(hE:E<=20000000000){l:Li}{a:As}(D:DyW l a)(h3:(llq a.rs).length<=2){i:Nat}{j:Jt}(hj:l.jo[i]?=some j){b:Int}(h:PinP E l a j b) :
  Nm (llq a.rs).length 62500000000 (sX (aH l a j b).1)/\Nm (llq a.rs).length 62500000000 (sX (aH l a j b).2):=by
 obtain⟨i1,i2,i3,i4,_⟩:=dZ D.li hj;unfold aH;rcases h.tie with⟨e,hb⟩ |⟨e,e2,hb⟩
 ·rw[aoz e];exact KQ hE D h3 i2 i4 hb
 ·rw[aoy e];exact KQ hE D h3 i1 i3 hb
theorem M8{E:Nat}(hE:E<=20000000000){l:Li}{a:As}(D:DyW l a)(h3:(llq a.rs).length<=2){n:Nat}{i:Int}{j0:Jt}(h0:l.jo[n]?=some j0)(p0:PinP E l a j0 i){x:Tn}(hq:Qb 1000 x.t.q) :
  BdP (llq a.rs) (((1:Int):Rat),(0:Rat)) ((qE (d8 x.half x.t.q),qE (d6 x.half x.t.q)):P2 (llq a.rs)) (ak l j0 i) (aH l a j0 i):=by
 obtain⟨tw,etw⟩:=dg D.al.tr D.hc;have qc:=qS (half:=x.half) hq;have qs:=qM (half:=x.half) hq;have iw:Sm 1000 (ak l j0 i):=kO D.hl D.li h0 p0.or;obtain⟨y1,y2⟩:=VM hE D h3 h0 p0
 exact Mc (F:=92000000000) (W:=10000) (u:=(((1:Int):Rat),(0:Rat))) (p:=ak l j0 i) (w:=((qE (d8 x.half x.t.q),qE (d6 x.half x.t.q)):P2 (llq a.rs))) (o:=aH l a j0 i) tw h3 (Ph h3) Kq (iw.mono oz) (by decide +kernel)
  (by show Nm _ _ (sX (qE (d8 x.half x.t.q):Et (llq a.rs)));rw[yD];exact(uu tw.five qc).mono oz) (by show Nm _ _ (sX (qE (d6 x.half x.t.q):Et (llq a.rs)));rw[yD];exact(uu tw.five qs).mono oz) y1 y2 oz oz oz
theorem WH{E:Nat}(hE:E<=20000000000){l:Li}{a:As}(D:DyW l a)(h3:(llq a.rs).length<=2){i z0 d:Int}{j0:Jt}(hg:GrOk l ⟨0,[i],[z0],d⟩)(h0:l.jo[z0.toNat]?=some j0)(p0:PinP E l a j0 i){x:Tn}(hx:x.t.ok)(hq:Qb 1000 x.t.q)(he:x.err=0) :
  Con prog 279 [.ptr 1000 0,x.av] [pP 1000 (de l ⟨0,[i],[z0],d⟩ a)] (.tup [.lst 3 [(⟨llq a.rs,[oF l a i j0 x],1⟩:Sv).av],.v .nilIface]) [pP 1000 (de l ⟨0,[i],[z0],d⟩ a)]:=by
 obtain⟨tw,etw⟩:=dg D.al.tr D.hc;have hc:=LK x hx hq oz;rw[aoz he,he]at hc;have hs:=acq x hx hq oz;rw[aoz he,he]at hs;have qc:=qS (half:=x.half) hq;have qs:=qM (half:=x.half) hq;have iw:Sm 1000 (ak l j0 i):=kO D.hl D.li h0 p0.or;have hb:=Fk Kq (iw.mono oz) (M8 hE D h3 h0 p0 hq)
 have ew:eH (P2.l ((qE (d8 x.half x.t.q),qE (d6 x.half x.t.q)):P2 (llq a.rs)))=aP (sh 0 (d8 x.half x.t.q:Rat)) (sh 0 (d6 x.half x.t.q:Rat)):=by
  show aP (sX (qE (d8 x.half x.t.q):Et (llq a.rs))) (sX (qE (d6 x.half x.t.q):Et (llq a.rs)))=_;rw[yD,yD]
 rw[ew]at hb;have fX:=EY tw;have ai9:FP 375 [cJ a.rs] (aZ (llq a.rs)):=by rw[etw];exact fX
 refine gF func279 (fun k z h=>bW h) ?_;refine gc hc ?_;refine gf ?_;refine gc hs ?_;refine gf ?_;refine gi rfl ?_;refine gt (ba (zy hE D.hl D.li _ hg D.al D.hc (k:=0) rfl h0 h3 p0) (.cons (.tmp rfl) (.cons (.const _) (dJ rfl))) rfl rfl rfl) ?_;refine gD ?_ (9,0);refine gW (Wk.of (sl:=[pP 0 (.ptr 1000 0),pP 6 (.ptr 6 0),pP 8 (.ptr 8 0),pP 9 (.ptr 9 0),pP 10 (.ptr 10 0),pP 11 (.ptr 52 0)]) (hp:=[pP 1000 (de l ⟨0,[i],[z0],d⟩ a),pP 6 (.box [bl (rt (d8 x.half x.t.q)).neg,ws (rt (d8 x.half x.t.q)).num,ws (rt (d8 x.half x.t.q)).den]),pP 8 (.box [bl (rt (d6 x.half x.t.q)).neg,ws (rt (d6 x.half x.t.q)).num,ws (rt (d6 x.half x.t.q)).den]),pP 9 (.box (qC (ak l j0 i))),pP 10 (.box [nA (sX (aH l a j0 i).1),nA (sX (aH l a j0 i).2)]),pP 52 (bt (llq a.rs))]) bg (.k (.k (.k (.k (.k (.cons rfl (BlkSub.bL (.cons (.of (oV etw)) (.cons (.refl _) .nil)) rfl) .nil))))))) ?_
 refine gc (sR 1 oz) ?_;refine gc (AD (qc.qs oz) (qs.qs oz)) ?_;refine gt (ba (Con.rB 52 rfl rfl rfl rfl (Con.sA (.cons (.refl _) (.cons W6 (.cons (.refl _) (.cons (.refl _) (.cons (.refl _) .nil))))) hb)) (.cons (.tmp rfl) (.cons (.tmp rfl) (.cons (.tmp rfl) (.cons (.tmp rfl) (.cons (.tmp rfl) .nil))))) rfl rfl rfl) ?_;refine gD ?_;refine gf ?_;refine gc ai9 ?_;refine gD ?_;refine gR ?_;exact aD.keep (bH rfl)
theorem Ty{E:Nat}(hE:E<=20000000000){l:Li}{a:As}(D:DyW l a)(h3:(llq a.rs).length<=2){i z0 d:Int}{j0:Jt}(hg:GrOk l ⟨0,[i],[z0],d⟩)(h0:l.jo[z0.toNat]?=some j0)(p0:PinP E l a j0 i){x:Tn}(hx:x.t.ok)(hq:Qb 1000 x.t.q) :
  Con prog 279 [.ptr 1000 0,x.av] [pP 1000 (de l ⟨0,[i],[z0],d⟩ a)] (u6 (no l a i j0 x)) [pP 1000 (de l ⟨0,[i],[z0],d⟩ a)]:=by
 by_cases he:x.err=0
 ·have h:=WH hE D h3 hg h0 p0 hx hq he;unfold no;rw[aoy oz];exact h
 ·have h:=ad2 (l:=l) (g:=⟨0,[i],[z0],d⟩) (a:=a) hx hq he;unfold no;rw[aoz he];exact h
def ns(l:Li)(a:As)(g:Gr)(x:Tn):List AV×Nat :=
  if g.kind=0 then no l a (ay g 0) (aj l g 0) x
  else if g.kind=1 then kE l a (ay g 0) (ay g 1) (aj l g 0) (aj l g 1) (aj l g 2)
  else if g.kind=2 then ki l a (ay g 0) (aj l g 0) (aj l g 1)
  else jg l a (ay g 0) (aj l g 0) (aj l g 1)
theorem Ha{E:Nat}{l:Li}{k:Int}{a:As}{own:Bool}{n:Nat}{g:Gr}(h:DyOk E l k a own n g)(hk:g.kind=0):∃i z0 d j0,g=⟨0,[i],[z0],d⟩/\l.jo[z0.toNat]?=some j0/\PinP E l a j0 i:=by
 have hd:=h.dy;cases hd with
 |rrr _ _ _ _ _ _ _=>exact ao5 hk (by simp)
 |pr _ _ _=>exact ao5 hk (by simp)
 |rp _ _ _=>exact ao5 hk (by simp)
 | @drv b z d j x t d0 hd hb=>exact⟨b,z,d,j,rfl,t.hj,h.pin rfl t (by simp) (by simp)⟩
theorem acz{l:Li}{k:Int}{x:Tn}{a:As}{E:Nat}(fO:FP 90 [l.av,i64 k,a.av,bl false] (.tup [.v (.pointer none),bU E]))(h0:E≠0) :
  FP 153 [l.av,i64 k,x.av,a.av] (.tup [.lst 3 [],bU E]):=by
 refine am func153 ?_;refine gc fO ?_;refine gC (fun z=>?_) (fun z=>?_) (st2:=(77777,0))
 ·refine gR ?_;exact fa (Sub.tup (.cons (.nil _ _ _) (.cons (.refl _) .nil)))
 exact ao5 (d7 z) h0
theorem ac4{E:Nat}(hE:E<=20000000000){l:Li}{k:Int}{a:As}{n:Nat}{g:Gr}{x:Tn}(hx:x.t.ok)(hq:Qb 1000 x.t.q)(h3:(llq a.rs).length<=2)(hR:g.kind≠0->E=3900000/\DyS a)(fO:Con prog 90 [l.av,i64 k,a.av,bl false] [] (.tup [.ptr 900 0,.v .nilIface]) [pP 900 (de l g a)])(D:DyW l a)(ok:DyOk E l k a false n g) :
  FP 153 [l.av,i64 k,x.av,a.av] (u6 (ns l a g x)):=by
 have ib:=ok.ok;refine am func153 ?_;refine gt (aR fO (.cons (.tmp rfl) (.cons (.tmp rfl) (.cons (.tmp rfl) (.cons (.const _) .nil)))) aT rfl rfl) ?_ (2,0);refine gW (Wk.o (sl:=[pP 6 (.ptr 6 0),pP 10 (.ptr 900 0),pP 11 (.v .nilIface)]) (hp:=[pP 6 (.box x.av.cells),pP 900 (de l g a)])) ?_;refine gf ?_;refine gC (fun z=>?_) (fun z=>?_)
 ·have hk:g.kind=0:=dI z;obtain⟨i,z0,d,j0,e,jd,p0⟩:=Ha ok hk;have eR:ns l a g x=no l a i j0 x:=by unfold ns; rw[aoz hk,e]; show no l a i (l.jo.getD z0.toNat default) x=_; rw[aw jd]
  subst e;refine gt (ba (Con.rB 900 rfl rfl rfl rfl (Ty hE D h3 ib jd p0 hx hq)) (b8 rfl rfl) rfl rfl rfl) ?_;refine gR ?_;exact fa (.of (by rw[eR];rfl))
 have j6:g.kind≠0:=fq z;obtain⟨Iq,S⟩:=hR j6;subst Iq;have D:DyR l a:=⟨D,S⟩
 have hn:=S.one D.hc;refine gC (fun z=>?_) (fun z=>?_)
 ·have hk:g.kind=1:=dI z;obtain⟨i,k2,z0,z1,z2,j0,j1,j2,P⟩:=ok.rrr hk;obtain⟨e0,e1,e2,b0,b1,_⟩:=P.at;have eR:ns l a g x=kE l a i k2 j0 j1 j2:=by unfold ns; rw[aoy j6,aoz hk,e0,e1,e2,b0,b1]
  have e:=P.eq;subst e;refine gt (ba (Con.rB 900 rfl rfl rfl rfl (WQ D hn ib P)) (dJ rfl) rfl rfl rfl) ?_;refine gR ?_;exact fa (.of (by rw[eR];rfl))
 have iy:g.kind≠1:=fq z;refine gC (fun z=>?_) (fun z=>?_)
 ·have hk:g.kind=2:=dI z;obtain⟨i,z0,z1,j0,j,P,ha,hb⟩:=ok.pr hk;obtain⟨e0,e1,b0,_⟩:=P.at;have eR:ns l a g x=ki l a i j0 j:=by unfold ns; rw[aoy j6,aoy iy,aoz hk,e0,e1,b0]
  have e:=P.eq;subst e;refine gt (ba (Con.rB 900 rfl rfl rfl rfl (VN D hn ib P ha hb)) (dJ rfl) rfl rfl rfl) ?_;refine gR ?_;exact fa (.of (by rw[eR];rfl))
 have dF:g.kind≠2:=fq z;obtain⟨i,z0,z1,j0,j,P,_,hj,hb⟩:=ok.rp j6 iy dF;obtain⟨e0,e1,b0,_⟩:=P.at;have eR:ns l a g x=jg l a i j0 j:=by unfold ns;rw[aoy j6,aoy iy,aoy dF,e0,e1,b0]
 have e:=P.eq;subst e;refine gt (ba (Con.rB 900 rfl rfl rfl rfl (V4 D hn ib P hj hb)) (dJ rfl) rfl rfl rfl) ?_;refine gR ?_;exact fa (.of (by rw[eR];rfl))
def AZ(l:Li)(k:Int)(x:Tn)(a:As):List AV×Nat:=if iZ l k a false=0 then ns l a (mY l k) x else([],iZ l k a false)
theorem ZI(l:Li)(hl:l.ok)(k:Int){x:Tn}(hx:x.t.ok)(hq:Qb 1000 x.t.q)(a:As)(al:AB a)(h3:bB a.rs=0->(llq a.rs).length<=2){E:Nat}(hE:E<=20000000000)(hs:xO E l k a false)(hR:iZ l k a false=0->(mY l k).kind≠0->E=3900000/\DyS a) :
  FP 153 [l.av,i64 k,x.av,a.av] (u6 (AZ l k x a)):=by
 have fO:=Xf l hl k a al false;unfold AZ
 by_cases h0:iZ l k a false=0
 ·obtain⟨n,g,ok⟩:=Qr hs h0;have ox:mY l k=g:=by unfold mY; rw[ok.hk,aol]; exact aw ok.hg
  have hR:=hR h0;rw[ox]at hR;rw[h0,ox]at fO;rw[aoz h0,ox];exact ac4 hE hx hq (h3 ok.chk) hR fO ⟨hl,ok.li,al,ok.chk⟩ ok
 ·rw[qN h0,wM h0]at fO;rw[aoy h0];exact acz fO h0
theorem AL.sma{a:As}(al:AL a)(l:Li)(k:Int)(own:Bool):xO 3900000 l k a own:=fun b _ _ p hp x hx=>(al.nr p (ank hp) x hx).mono oz
structure SvOk(s:Sv):Prop where
  tw:∃r,Tw s.ts r
  two:s.ts.length<=2
  ps:∀p∈s.ps,Pq.ok s.ts.length 92000000000 p
  ln:s.ps.length<=2
theorem KM(ts:LL)(x:T ts.length):fJ ts x x=true:=by
 unfold fJ subT;rw[T.add_neg,T.sgn_zero];rfl
structure SolP(S:List Sv)(kd:Int)(n b:Nat):Prop where
  two:S.length<=2
  ok:∀s∈S,SvOk s
  md:∀(i:Nat)(s:Sv),S[i]?=some s->s.mode=(if kd=0 then 1 else if S.length=2 then 1-2*(i:Int)else 0)/\s.ts.length=n+(if S.length=2 then 1 else 0)/\s.ps.length=b
theorem tT(kd:Int)(n b:Nat):SolP [] kd n b:=⟨by simp,by simp,by simp⟩
theorem BX(f:Nat->Sv)(n:Nat):((List.range n).map fun i=>(f i).av)=((List.range n).map f).map Sv.av:=by rw[map_map];rfl
theorem aca{ts:LL}(p q:P2 ts)(z z2:Et ts)(h0:gh p q z z2=0):(eP p q z z2).ts.length=ts.length+(if(eP p q z z2).ps.length=2 then 1 else 0):=by
 unfold gh mJ at h0;unfold eP pY;split
 ·rename_i hd;rw[aoz hd]at h0;split
  ·simp
  ·rename_i hz;split
   ·rename_i hp;rw[aoz ⟨anj.1 hz,hp⟩]at h0;cases h0
   ·simp
 ·split
  ·simp
  ·split
   ·simp
   ·simp[e8]
theorem Za{ts:LL}(p q o:P2 ts)(z:Et ts)(h0:f7 p q=0):(eM p q o z).ts.length=ts.length+(if(eM p q o z).ps.length=2 then 1 else 0):=by
 unfold f7 at h0;unfold eM;split
 ·rename_i hd;rw[aoz hd]at h0;cases h0
 ·split
  ·simp
  ·split
   ·simp
   ·simp[e8]
def mX(m:Mt)(hs:List Hd):List Sv:=(List.range m.ps.length).map (kV m hs)
def kN(l:Li)(a:As)(i k:Int)(j0 j1 j2:Jt):List Sv :=
  if jO [bS (ak l j2 i) (ak l j0 i),bS (ak l j2 k) (ak l j1 k)]=true then[]
  else if gh (aH l a j0 i) (aH l a j1 k) (qE (bq (ak l j2 i) (ak l j0 i))) (qE (bq (ak l j2 k) (ak l j1 k)))≠0 then[]
  else mX (eP (aH l a j0 i) (aH l a j1 k) (qE (bq (ak l j2 i) (ak l j0 i))) (qE (bq (ak l j2 k) (ak l j1 k)))) [⟨ak l j0 i,P2.l (aH l a j0 i),ak l j2 i⟩,⟨ak l j1 k,P2.l (aH l a j1 k),ak l j2 k⟩]
def lh(l:Li)(a:As)(i:Int)(j0 j:Jt):List Sv :=
  if jO [bS (aE l i j.point) (ak l j0 i)]=true then[]
  else if f7 (bh l a j.b j.on) (bh l a j.b j.to)≠0 then[]
  else mX (eM (bh l a j.b j.on) (bh l a j.b j.to) (aH l a j0 i) (qE (bq (aE l i j.point) (ak l j0 i)))) [⟨ak l j0 i,P2.l (aH l a j0 i),aE l i j.point⟩]
def mP(ts:LL)(R:Rp)(qs:LL):List Sv:=(List.range qs.length).map (lM ts R qs)
def kc(l:Li)(a:As)(i:Int)(j0 j:Jt):List Sv :=
  if ao (cH l a i j0 j)=0/\ao (qE (cB l i j0 j):Et (llq a.rs))=0 then[]
  else if ao (bD l a i j0 j)<0 then[]
  else if 0<ao (bD l a i j0 j)then mP (aX (llq a.rs) (sX (bD l a i j0 j))) (er l a i j0 j) [cW (llq a.rs).length,sX (-bM (bD l a i j0 j))]
  else mP (llq a.rs) (er l a i j0 j) [[]]
def lW(l:Li)(a:As)(i:Int)(j0:Jt)(x:Tn):List Sv:=if x.err≠0 then[]else[⟨llq a.rs,[oF l a i j0 x],1⟩]
def fE(l:Li)(a:As)(g:Gr)(x:Tn):List Sv :=
  if g.kind=0 then lW l a (ay g 0) (aj l g 0) x
  else if g.kind=1 then kN l a (ay g 0) (ay g 1) (aj l g 0) (aj l g 1) (aj l g 2)
  else if g.kind=2 then lh l a (ay g 0) (aj l g 0) (aj l g 1)
  else kc l a (ay g 0) (aj l g 0) (aj l g 1)
theorem aa2(l:Li)(a:As)(i k:Int)(j0 j1 j2:Jt):(kE l a i k j0 j1 j2).1=(kN l a i k j0 j1 j2).map Sv.av:=by
 unfold kE kN;split
 ·rfl
 ·split
  ·rfl
  ·exact BX _ _
theorem VJ(l:Li)(a:As)(i:Int)(j0 j:Jt):(ki l a i j0 j).1=(lh l a i j0 j).map Sv.av:=by
 unfold ki lh;split
 ·rfl
 ·split
  ·rfl
  ·exact BX _ _
theorem ae2(l:Li)(a:As)(i:Int)(j0 j:Jt):(jg l a i j0 j).1=(kc l a i j0 j).map Sv.av:=by
 unfold jg kc;split
 ·rfl
 ·split
  ·rfl
  ·split
   ·exact BX _ _
   ·exact BX _ _
theorem UJ(l:Li)(a:As)(g:Gr)(x:Tn):(ns l a g x).1=(fE l a g x).map Sv.av:=by
 unfold ns fE;split
 ·unfold no lW;split <;> rfl
 ·split
  ·exact aa2 ..
  ·split
   ·exact VJ ..
   ·exact ae2 ..
theorem Jf{ts:LL}{m:Mt}(ok:MtOk ts m){hs:List Hd}(hl:hs.length<=2)(H:∀x∈m.ps,∀h∈hs,HdP m.ts x h){kd:Int}(hk:kd≠0)(lv:m.ts.length=ts.length+(if m.ps.length=2 then 1 else 0)) :
  SolP (mX m hs) kd ts.length hs.length:=by
 have eg:=ok.ln;refine⟨by simpa[mX]using eg,?_,?_⟩
 ·intro s oy;obtain⟨i,hi,rfl⟩:=al0.1 oy;obtain⟨x,hx⟩:=aB (alh.1 hi);obtain⟨r,tw,_⟩:=ok.tw;refine⟨⟨r,tw⟩,ok.two,?_,by simpa[kV]using hl⟩;intro p hp;unfold kV at hp;rw[aw hx]at hp;obtain⟨h,hh,rfl⟩:=al0.1 hp;exact(H x (ank hx) h hh).b.ok
 ·intro i s hi;unfold mX at hi;have ah:i<m.ps.length:=by have:=(alj.1 hi).1; simpa using this
  have e:s=kV m hs i:=by simp[ah]at hi;exact hi.symm
  subst e;have bK:(mX m hs).length=m.ps.length:=by simp[mX]
  rw[bK,aoy hk];refine⟨?_,lv,by simp[kV]⟩;show(if m.ps.length=1 then 0 else 1-2*(i:Int))=_
  by_cases h2:m.ps.length=2
  ·rw[aoy oz,aoz h2]
  ·rw[aoz oz,aoy h2]
theorem aat{l:Li}{a:As}(D:DyR l a)(hn:(llq a.rs).length<=1){g:Gr}{i k z0 z1 z2:Int}{j0 j1 j2:Jt}(P:RrrP 3900000 l a g i k z0 z1 z2 j0 j1 j2):SolP (kN l a i k j0 j1 j2) 1 (llq a.rs).length 2:=by
 have c:=D.s.ct D.hc;obtain⟨tw,etw⟩:=dg D.s.tr D.hc;have gp:=kO D.hl D.li P.h0 P.p0.or;have nI:=kO D.hl D.li P.h1 P.p1.or;have fB:=kO D.hl D.li P.h2 P.t1;have pE:=kO D.hl D.li P.h2 P.t2;obtain⟨y1,y2⟩:=re D.hl D.li D.al D.s D.hc P.h0 P.p0;obtain⟨y3,y4⟩:=re D.hl D.li D.al D.s D.hc P.h1 P.p1;haveI:=c;haveI q1:=vY fB gp;haveI q2:=vY pE nI;have z1:Zu 310000 132100 (qE (bq (ak l j2 i) (ak l j0 i)):Et (llq a.rs)) 3 0:=ao7;have z2:Zu 310000 132100 (qE (bq (ak l j2 k) (ak l j1 k)):Et (llq a.rs)) 3 0:=ao7;unfold kN
 by_cases h1:jO [bS (ak l j2 i) (ak l j0 i),bS (ak l j2 k) (ak l j1 k)]=true
 ·rw[aoz h1];exact tT _ _ _
 ·rw[aoy h1];obtain⟨w1,w2⟩:=wb (amx.2 h1)
  by_cases h2:gh (aH l a j0 i) (aH l a j1 k) (qE (bq (ak l j2 i) (ak l j0 i))) (qE (bq (ak l j2 k) (ak l j1 k)))≠0
  ·rw[aoz h2];exact tT _ _ _
  ·rw[aoy h2];have h3:=anj.1 h2;have ok:=NS (x:=(aH l a j0 i).1) (y:=(aH l a j0 i).2) (x2:=(aH l a j1 k).1) (y2:=(aH l a j1 k).2) tw hn c y1 y2 z1 y3 y4 z2 h3;exact Jf ok (by simp) (fun x hx=>pS (uZ ok hx (y1.nm.mono (by decide)) (y2.nm.mono (by decide)) gp fB w1) (uZ ok hx (y3.nm.mono (by decide)) (y4.nm.mono (by decide)) nI pE w2)) (by decide) (aca _ _ _ _ h3)
theorem SH{l:Li}{a:As}(D:DyR l a)(hn:(llq a.rs).length<=1){g:Gr}{i z0 z1:Int}{j0 j:Jt}(P:SlP 3900000 l a g 2 i z0 z1 j0 j)(ha:j.a=i)(hb:Pd 3900000 a j.b):SolP (lh l a i j0 j) 2 (llq a.rs).length 1:=by
 have c:=D.s.ct D.hc;obtain⟨tw,etw⟩:=dg D.s.tr D.hc;obtain⟨i1,i2,i3,i4,i5⟩:=dZ D.li P.h1;have fB:Sm 1000 (aE l i j.point):=by rw[<- ha];exact p6 D.hl D.li i1 i3
 have gp:=kO D.hl D.li P.h0 P.p0.or;obtain⟨y1,y2⟩:=re D.hl D.li D.al D.s D.hc P.h0 P.p0;obtain⟨y3,y4⟩:=rD D.hl D.li D.al D.s D.hc i2 i4 hb;obtain⟨y5,y6⟩:=rD D.hl D.li D.al D.s D.hc i2 (i5 P.hk) hb;haveI:=c;haveI q1:=vY fB gp;have z1:Zu 310000 132100 (qE (bq (aE l i j.point) (ak l j0 i)):Et (llq a.rs)) 3 0:=ao7;unfold lh
 by_cases h1:jO [bS (aE l i j.point) (ak l j0 i)]=true
 ·rw[aoz h1];exact tT _ _ _
 ·rw[aoy h1];have w1:=vu (amx.2 h1)
  by_cases h2:f7 (bh l a j.b j.on) (bh l a j.b j.to)≠0
  ·rw[aoz h2];exact tT _ _ _
  ·rw[aoy h2];have h3:=anj.1 h2;have ok:=NM (o:=aH l a j0 i) (p:=bh l a j.b j.on) (q:=bh l a j.b j.to) (z:=qE (bq (aE l i j.point) (ak l j0 i))) tw hn c y1 y2 y3 y4 y5 y6 z1 h3;exact Jf ok (by simp) (fun x hx=>kW (uZ ok hx (y1.nm.mono (by decide)) (y2.nm.mono (by decide)) gp fB w1)) (by decide) (Za _ _ _ _ h3)
theorem OW{ts T:LL}{R:Rp}{qs:LL}(ct:Cy T 915000000 1301000000)(hl:qs.length<=2)(h1:1<=qs.length)(H:∀q∈qs,RqP T R q)(lv:T.length=ts.length+(if qs.length=2 then 1 else 0)):SolP (mP T R qs) 3 ts.length 1:=by
 refine⟨by simpa[mP]using hl,?_,?_⟩
 ·intro s oy;obtain⟨i,hi,rfl⟩:=al0.1 oy;obtain⟨x,hx⟩:=aB (alh.1 hi);obtain⟨r,tw,_⟩:=ct.ex;refine⟨⟨r,tw⟩,ct.two,?_,by simp[lM]⟩;intro p hp;unfold lM at hp;rw[aw hx]at hp;rw[alr.1 hp];exact(H x (ank hx)).b.ok
 ·intro i s hi;unfold mP at hi;have ah:i<qs.length:=by have:=(alj.1 hi).1; simpa using this
  have e:s=lM T R qs i:=by simp[ah]at hi;exact hi.symm
  subst e;have bK:(mP T R qs).length=qs.length:=by simp[mP]
  rw[bK,aoy (by decide)];refine⟨?_,lv,by simp[lM]⟩;show(if qs.length=1 then 0 else 1-2*(i:Int))=_
  by_cases h2:qs.length=2
  ·rw[aoy oz,aoz h2]
  ·rw[aoz oz,aoy h2]
theorem Tk{l:Li}{a:As}(D:DyR l a)(hn:(llq a.rs).length<=1){g:Gr}{i z0 z1:Int}{j0 j:Jt}(P:SlP 3900000 l a g 3 i z0 z1 j0 j)(hj:j.b=i)(hb:Pd 3900000 a j.a):SolP (kc l a i j0 j) 3 (llq a.rs).length 1:=by
 obtain⟨tw,etw⟩:=dg D.s.tr D.hc;have F:=NV D hn P hj hb;unfold kc
 by_cases h1:ao (cH l a i j0 j)=0/\ao (qE (cB l i j0 j):Et (llq a.rs))=0
 ·rw[aoz h1];exact tT _ _ _
 ·rw[aoy h1]
  by_cases h2:ao (bD l a i j0 j)<0
  ·rw[aoz h2];exact tT _ _ _
  ·rw[aoy h2];have fh:ao (cH l a i j0 j)≠0:=vi tw h2 h1
   by_cases h3:0<ao (bD l a i j0 j)
   ·rw[aoz h3];obtain⟨E,R1,R2,_⟩:=Jk F tw hn fh oz;exact OW (ts:=llq a.rs) (qs:=[cW (llq a.rs).length,sX (-bM (bD l a i j0 j))]) E.cy (anp 2) (by show 1<=2;omega) (pS R1 R2) (e8 (llq a.rs) (sX (bD l a i j0 j)))
   ·rw[aoy h3];obtain⟨cs,R0⟩:=ON F tw hn fh;exact OW (ts:=llq a.rs) (qs:=[[]]) cs (by show 1<=2;omega) (anp 1) (kW R0) rfl
theorem UU{E:Nat}(hE:E<=20000000000){l:Li}{a:As}(D:DyW l a)(h3:(llq a.rs).length<=2){i z0:Int}{j0:Jt}(h0:l.jo[z0.toNat]?=some j0)(p0:PinP E l a j0 i){x:Tn}(hq:Qb 1000 x.t.q):SolP (lW l a i j0 x) 0 (llq a.rs).length 1:=by
 obtain⟨tw,etw⟩:=dg D.al.tr D.hc;unfold lW
 by_cases he:x.err≠0
 ·rw[aoz he];exact tT _ _ _
 ·rw[aoy he];refine ⟨by simp,kW ⟨⟨_,tw⟩,h3,kW (M8 hE D h3 h0 p0 hq).ok,by show 1<=2; omega⟩,?_⟩;intro n s hs
  match n,hs with
  |0,hs=>cases hs;exact⟨rfl,rfl,rfl⟩
theorem N4{E:Nat}(hE:E<=20000000000){l:Li}{k:Int}{a:As}{n:Nat}{g:Gr}{x:Tn}(D:DyW l a)(h3:(llq a.rs).length<=2)(ok:DyOk E l k a false n g)(hR:g.kind≠0->E=3900000/\DyS a)(hq:Qb 1000 x.t.q):SolP (fE l a g x) g.kind (llq a.rs).length g.bo.length:=by
 unfold fE
 by_cases j6:g.kind=0
 ·obtain⟨i,z0,d,j0,e,jd,p0⟩:=Ha ok j6;rw[aoz j6,e];show SolP (lW l a i (l.jo.getD z0.toNat default) x) _ _ _;rw[aw jd];exact UU hE D h3 jd p0 hq
 ·rw[aoy j6];obtain⟨Iq,S⟩:=hR j6;subst Iq;have D:DyR l a:=⟨D,S⟩
  have hn:=S.one D.hc
  by_cases iy:g.kind=1
  ·obtain⟨i,k2,z0,z1,z2,j0,j1,j2,P⟩:=ok.rrr iy;obtain⟨e0,e1,e2,b0,b1,_⟩:=P.at;rw[aoz iy,e0,e1,e2,b0,b1,iy,P.eq];exact aat D hn P
  ·rw[aoy iy]
   by_cases dF:g.kind=2
   ·obtain⟨i,z0,z1,j0,j,P,ha,hb⟩:=ok.pr dF;obtain⟨e0,e1,b0,_⟩:=P.at;rw[aoz dF,e0,e1,b0,dF,P.eq];exact SH D hn P ha hb
   ·obtain⟨i,z0,z1,j0,j,P,_,hj,hb⟩:=ok.rp j6 iy dF;obtain⟨e0,e1,b0,qD⟩:=P.at;rw[aoy dF,e0,e1,b0,qD,P.eq];exact Tk D hn P hj hb
open Lean.Grind (CommRing)
structure Hm{ts:LL}{R:Type}[CommRing R](f:Et ts->R):Prop where
  add:∀x y,f (x+y)=f x+f y
  mul:∀x y,f (x*y)=f x*f y
  neg:∀x,f (-x)=-f x
  one:f 1=1
  inv:∀x,ao x≠0->f (iE x)*f x=1
  zero:∀x,f x=0↔ao x=0
section
variable{ts:LL}{R:Type}[CommRing R]{f:Et ts->R}(h:Hm f)
include h
theorem Hm.sub(x y:Et ts):f (x-y)=f x-f y:=by
 rw[show x-y=x+-y by grind,h.add,h.neg];grind
theorem Hm.nul:f 0=0:=by
 have e:=h.add 0 0;rw[show(0:Et ts)+0=0 by grind]at e;grind
theorem Hm.q1:f (qE ((1:Int):Rat))=1:=by rw[qk];exact h.one
theorem Hm.q4:f (qE 4)=4:=by
 have e:(qE 4:Et ts)=1+1+1+1:=by
  have e1:=rc (r:=az ts) (n:=ts.length) 1 1;have e2:=rc (r:=az ts) (n:=ts.length) 2 2;rw[show(1:Rat)+1=2 by decide +kernel]at e1;rw[show(2:Rat)+2=4 by decide +kernel,e1]at e2;rw[e2];have e3:(qE 1:Et ts)=1:=rfl;rw[e3];grind
 rw[e,h.add,h.add,h.add,h.one];grind
end
abbrev dj(ts:LL):Prop:=ik (az ts) ts.length
theorem uw{ts:LL}(hp:dj ts):Hm (ae hp:Et ts->Zq hp) :=
 ⟨fun _ _=>rfl,fun _ _=>rfl,fun _=>rfl,rfl,fun x hx=>tO hp hx,fun x=>fV hp⟩
theorem Wq{ts:LL}(X:Et ts)(hp:dj (aX ts (sX X))):Hm (fun x:Et ts=>ae hp (aQ X x)) :=
  ⟨fun x y=>by rw[v5]; rfl,fun x y=>by rw[io]; rfl,fun x=>by rw[M7]; rfl,
   by have e:=sU X ((1:Nat):Rat)
      have e1:(qE ((1:Nat):Rat):Et ts)=1:=rfl;rw[e1]at e;rw[e];rfl,
   fun x hx=>by rw[tD];exact tO hp (by show ao (aQ X x)≠0;rw[um];exact hx),
   fun x=>by rw[fV hp];show ao (aQ X x)=0↔_;rw[um]⟩
theorem O2(k:Nat):af (k+1) (cW k)=(T.zero k,T.ofQ k 1):=by
 have h1:(cW k).take (2^k)=als (2^k) 0:=by
  unfold cW;rw[List.take_set_of_le (anp _),List.take_replicate];congr 1;have:=akh (a:=2) oz (Nat.lt_succ_self k);omega
 have h2:(cW k).drop (2^k)=(1:Rat)::als (2^k-1) 0:=by
  unfold cW;rw[List.drop_set,aoy oz,Nat.sub_self,List.drop_replicate]
  have e:2^(k+1)-2^k=(2^k-1)+1:=by
   have h3:0<2^k:=aki oz;have h4:2^(k+1)=2^k+2^k:=by rw[ajq];omega
   omega
  rw[e,List.replicate_succ,List.set_cons_zero]
 show(af k _,af k _)=_;rw[h1,h2]
 have e1:af k (als (2^k) (0:Rat))=T.zero k:=by
  rw[<- jX]
  exact tv k (fun i _=>by
   rw[anm,anm,aoh];split <;> rfl)
 have e2:af k ((1:Rat)::als (2^k-1) 0)=T.ofQ k 1:=by
  rw[<- pO]
  exact tv k (fun i _=>by
   cases i with
   |zero=>rfl
   |succ i =>
    rw[anm,anm,List.getElem?_cons_succ,aoh];split <;> rfl)
 rw[e1,e2]
theorem Yh{n N:Nat}(hN:N=n+1){r:(k:Nat)->T k}(x:T n)(hx:r n=x):T.mul r N (af N (cW n)) (af N (cW n))=lV x:=by
 subst hN;rw[O2,nW];show(T.add n (T.mul r n (T.zero n) (T.zero n)) (T.mul r n (T.mul r n (T.ofQ n 1) (T.ofQ n 1)) (r n)),T.add n (T.mul r n (T.zero n) (T.ofQ n 1)) (T.mul r n (T.ofQ n 1) (T.zero n)))=_;have L:=sS r n;rw[L.one,L.one,T.zero_mul,T.zero_mul,T.zero_add,L.one,T.zero_add,hx]
theorem DJ{ts:LL}(X:Et ts):bM X*bM X=aQ X X:=by
 refine Yh (e8 _ _) X ?_;show af ts.length ((aX ts (sX X)).getD ts.length [])=X;rw[zx,rO];exact bn _ _
section
variable{R:Type}[CommRing R]
theorem SK{p1 p2 q1 q2 z z2 i t:R}(hi:i*(((p1-q1)*(p1-q1)+(p2-q2)*(p2-q2))+((p1-q1)*(p1-q1)+(p2-q2)*(p2-q2)))=1)
  (ht:t*t=4*(z*((p1-q1)*(p1-q1)+(p2-q2)*(p2-q2)))-((z+((p1-q1)*(p1-q1)+(p2-q2)*(p2-q2)))-z2)*((z+((p1-q1)*(p1-q1)+(p2-q2)*(p2-q2)))-z2))
  {x y:R} (hx:x=p1+((z+((p1-q1)*(p1-q1)+(p2-q2)*(p2-q2)))-z2)*i*(q1-p1)+t*(i*-(q2-p2))) (hy:y=p2+((z+((p1-q1)*(p1-q1)+(p2-q2)*(p2-q2)))-z2)*i*(q2-p2)+t*(i*(q1-p1))) :
  (x-p1)*(x-p1)+(y-p2)*(y-p2)=z/\(x-q1)*(x-q1)+(y-q2)*(y-q2)=z2:=by
 obtain⟨d,hd⟩:∃d,d=(p1-q1)*(p1-q1)+(p2-q2)*(p2-q2):=⟨_,rfl⟩
 rw[<- hd]at hi ht hx hy;obtain⟨a,ha⟩:∃a,a=z+d-z2:=⟨_,rfl⟩
 rw[<- ha]at ht hx hy;have e1:(x-p1)*(x-p1)+(y-p2)*(y-p2)=(a*a+t*t)*(i*i)*d:=by rw[hx,hy,hd];grind
 have e2:(a*a+t*t)*(i*i)*d=z:=by
  rw[ht];have:(a*a+(4*(z*d)-a*a))*(i*i)*d=z*(i*(d+d))*(i*(d+d)):=by grind
  rw[this,hi];grind
 have e3:(x-q1)*(x-q1)+(y-q2)*(y-q2)=((x-p1)*(x-p1)+(y-p2)*(y-p2))-a*(i*(d+d))+d:=by rw[hx,hy,hd];grind
 refine⟨e1.trans e2,?_⟩;rw[e3,e1,e2,hi,ha];grind
theorem abe(e t i S:R):(e+t)*i*S=(e+t)*(i*S):=by grind
theorem WX(z i S W:R):i*S*z-i*(S*W)+W=z*(i*S)-(i*S)*W+W:=by grind
theorem ace(z W:R):z*1-1*W+W=z:=by grind
theorem YB(x:R):x*1=x:=by grind
theorem VD(k e t S:R):k*k*S-(k*e+k*e)=k*(k*S)-(k*e+k*e):=by grind
theorem ZP(e t i:R):(e+t)*i*(e+t)-((e+t)*i*e+(e+t)*i*e)=i*(t*t-e*e):=by grind
theorem abf{p1 p2 q1 q2 c1 c2 z i t k:R}(hi:i*((q1-p1)*(q1-p1)+(q2-p2)*(q2-p2))=1)
  (ht:t*t=((q1-p1)*(q1-p1)+(q2-p2)*(q2-p2))*z-((q1-p1)*(c2-p2)-(q2-p2)*(c1-p1))*((q1-p1)*(c2-p2)-(q2-p2)*(c1-p1)))
  (hk:k=((q1-p1)*(c1-p1)+(q2-p2)*(c2-p2)+t)*i)
  {x y:R} (hx:x=p1+k*(q1-p1)) (hy:y=p2+k*(q2-p2)) :
  (x-c1)*(x-c1)+(y-c2)*(y-c2)=z/\(q1-p1)*(y-p2)-(q2-p2)*(x-p1)=0:=by
 refine⟨?_,by rw[hx,hy];grind⟩;obtain⟨S,hS⟩:∃S,S=(q1-p1)*(q1-p1)+(q2-p2)*(q2-p2):=⟨_,rfl⟩
 obtain⟨e,he⟩:∃e,e=(q1-p1)*(c1-p1)+(q2-p2)*(c2-p2):=⟨_,rfl⟩
 obtain⟨C,hC⟩:∃C,C=(q1-p1)*(c2-p2)-(q2-p2)*(c1-p1):=⟨_,rfl⟩
 obtain⟨W,hW⟩:∃W,W=(c1-p1)*(c1-p1)+(c2-p2)*(c2-p2):=⟨_,rfl⟩
 rw[<- hS]at hi ht;rw[<- he]at hk;rw[<- hC]at ht;have e0:e*e+C*C=S*W:=by rw[he,hC,hS,hW];grind
 have e1:(x-c1)*(x-c1)+(y-c2)*(y-c2)=k*k*S-(k*e+k*e)+W:=by rw[hx,hy,hS,he,hW];grind
 have e2:k*S=e+t:=by rw[hk,abe,hi,YB]
 have e3:k*k*S-(k*e+k*e)+W=i*(t*t-e*e)+W:=by
  rw[VD k e t S,e2,hk,ZP]
 rw[e1,e3,ht];have:i*(S*z-C*C-e*e)+W=i*S*z-i*(e*e+C*C)+W:=by grind
 rw[this,e0,WX,hi,ace]
theorem Wa{W1 W2 N hh i t D w1 w2:R}(hD:D=W1*W1+W2*W2)(hi:i*D=1)(ht:t*t=N*D-hh*hh)
  (h1:w1=(t*W1-hh*-W2)*i) (h2:w2=(t*W2-hh*W1)*i):w1*w1+w2*w2=N/\w1*W2-w2*W1=hh:=by
 have e1:w1*w1+w2*w2=(t*t+hh*hh)*(i*D)*i:=by rw[h1,h2,hD];grind
 have e2:w1*W2-w2*W1=hh*(i*D):=by rw[h1,h2,hD];grind
 refine⟨?_,by rw[e2,hi];grind⟩;rw[e1,ht,hi];have:(N*D-hh*hh+hh*hh)*1*i=N*(i*D):=by grind
 rw[this,hi];grind
theorem Oh{u1 u2 w1 w2 n i c s:R}(hn:n=u1*u1+u2*u2)(hi:i*n=1)(hc:c=(u1*w1+u2*w2)*i)(hs:s=(u1*w2-u2*w1)*i) :
  (c*u1-s*u2=w1/\s*u1+c*u2=w2)/\(w1*w1+w2*w2=n->c*c+s*s=1):=by
 have e1:c*u1-s*u2=w1*(i*n):=by rw[hc,hs,hn];grind
 have e2:s*u1+c*u2=w2*(i*n):=by rw[hc,hs,hn];grind
 refine⟨⟨by rw[e1,hi];grind,by rw[e2,hi];grind⟩,fun hw=>?_⟩;have e3:c*c+s*s=(w1*w1+w2*w2)*(i*n)*i:=by rw[hc,hs,hn];grind
 rw[e3,hw,hi];rw[show n*1*i=i*n by grind,hi]
end
def ax{ts:LL}(T:LL)(y:Et ts):Et T:=dE T (sX y)
structure Lf(ts T:LL):Prop where
  pos:dj T
  hm:Hm (fun y:Et ts=>ae pos (ax T y))
  low:∀l:List Rat,l.length<=2^ts.length->ax T (dE ts l)=dE T l
  q:∀q:Rat,ax T (qE q:Et ts)=qE q
  len:ts.length<=T.length
  sg:∀y:Et ts,ao (ax T y)=ao y
  ad:∀x y:Et ts,ax T (x+y)=ax T x+ax T y
  mu:∀x y:Et ts,ax T (x*y)=ax T x*ax T y
theorem dH{ts:LL}(y:Et ts):ax ts y=y:=bn _ _
theorem oN{ts:LL}(hp:dj ts):Lf ts ts:=by
 refine⟨hp,?_,fun l _=>dH _,fun q=>dH _,anp _,fun y=>by rw[dH],fun x y=>by rw[dH,dH,dH],fun x y=>by rw[dH,dH,dH]⟩;have e:(fun y:Et ts=>ae hp (ax ts y))=ae hp:=funext fun y=>by rw[dH]
 rw[e];exact uw hp
theorem af0{n N:Nat}(hN:N=n+1){l:List Rat}(h:l.length<=2^n):af N (sh n (af n l))=af N l:=by
 subst hN;rw[jy (ek n _).le,bn,jy h]
theorem vJ{ts:LL}(X:Et ts)(hp:dj (aX ts (sX X))):Lf ts (aX ts (sX X)) :=
 ⟨hp,Wq X hp,fun l h=>af0 (e8 _ _) h,fun q=>sU X q,by rw[e8];omega,fun y=>um,fun x y=>v5 X x y,fun x y=>io X x y⟩
structure CirG(ts T:LL)(x:List Rat×List Rat)(p q:P2 ts)(z z2:Et ts):Prop where
  lf:Lf ts T
  c1:ao ((dE T x.1-ax T p.1)*(dE T x.1-ax T p.1)+(dE T x.2-ax T p.2)*(dE T x.2-ax T p.2)-ax T z)=0
  c2:ao ((dE T x.1-ax T q.1)*(dE T x.1-ax T q.1)+(dE T x.2-ax T q.2)*(dE T x.2-ax T q.2)-ax T z2)=0
section
variable{ts:LL}
theorem r6{R:Type}[CommRing R]{f:Et ts->R}(h:Hm f)(p q:P2 ts):f (aC p q)=(f p.1-f q.1)*(f p.1-f q.1)+(f p.2-f q.2)*(f p.2-f q.2):=by
 show f ((p.1-q.1)*(p.1-q.1)+(p.2-q.2)*(p.2-q.2))=_;rw[h.add,h.mul,h.mul,h.sub,h.sub]
theorem MF{R:Type}[CommRing R]{f:Et ts->R}(h:Hm f)(p q:P2 ts)(z z2:Et ts){D:R}(hD:f (aC p q)=D):f (bC p z q z2)=4*(f z*D)-((f z+D)-f z2)*((f z+D)-f z2):=by
 subst hD;unfold bC;rw[h.sub,h.mul,h.mul,h.mul,h.sub,h.add,h.q4]
theorem Wy{R:Type}[CommRing R]{f:Et ts->R}(h:Hm f){p q:P2 ts}{z z2:Et ts}(df:ao (aC p q+aC p q)≠0){t:R}(ht:t*t=f (bC p z q z2)){x y:R}
  (hx:x=f (dT p q z z2).1+t*f (jL p q).1) (hy:y=f (dT p q z z2).2+t*f (jL p q).2) :
  (x-f p.1)*(x-f p.1)+(y-f p.2)*(y-f p.2)=f z/\(x-f q.1)*(x-f q.1)+(y-f q.2)*(y-f q.2)=f z2:=by
 have d:=r6 h p q;have hi:=h.inv _ df;rw[h.add,d]at hi;rw[MF h p q z z2 d]at ht;refine SK hi ht ?_ ?_
 ·rw[hx,Cp];unfold dz jL;dsimp only;show f (p.1+qE ((1:Int):Rat)*iE (aC p q+aC p q)*(z+aC p q-z2)*(q.1-p.1))+t*f (qE ((1:Int):Rat)*iE (aC p q+aC p q)*(0-(q.2-p.2)))=_;simp only[h.add,h.mul,h.sub,h.q1,h.nul,d];generalize(f p.1-f q.1)*(f p.1-f q.1)+(f p.2-f q.2)*(f p.2-f q.2)=D;generalize f (iE (aC p q+aC p q))=i;clear ht hi hx hy;grind
 ·rw[hy,Cp];unfold dz jL;dsimp only;show f (p.2+qE ((1:Int):Rat)*iE (aC p q+aC p q)*(z+aC p q-z2)*(q.2-p.2))+t*f (qE ((1:Int):Rat)*iE (aC p q+aC p q)*(q.1-p.1))=_;simp only[h.add,h.mul,h.sub,h.q1,d];generalize(f p.1-f q.1)*(f p.1-f q.1)+(f p.2-f q.2)*(f p.2-f q.2)=D;generalize f (iE (aC p q+aC p q))=i;clear ht hi hx hy;grind
theorem Km{r:Nat}(tw:Tw ts r){d:Et ts}(hd:ao d≠0):ao (d+d)≠0:=by
 rw[<- G9,A9 tw];exact hd
theorem FN{T:LL}(L:Lf ts T){x:List Rat×List Rat}{p q:P2 ts}{z z2:Et ts}(df:ao (aC p q+aC p q)≠0){t:Et T}(ht:ae L.pos (t*t)=ae L.pos (ax T (bC p z q z2)))
  (hx:dE T x.1=ax T (dT p q z z2).1+t*ax T (jL p q).1) (hy:dE T x.2=ax T (dT p q z z2).2+t*ax T (jL p q).2):CirG ts T x p q z z2:=by
 have g:=Wy L.hm df (t:=ae L.pos t) ht (x:=ae L.pos (dE T x.1)) (y:=ae L.pos (dE T x.2)) (by rw[hx];rfl) (by rw[hy];rfl);refine⟨L,?_,?_⟩
 ·refine(fV L.pos).1 ?_;rw[bE,di,bm,bm,bE,bE];have:=g.1;generalize ae L.pos (ax T z)=Z at *;generalize ae L.pos (ax T p.1)=P1 at *;generalize ae L.pos (ax T p.2)=P2 at *;rw[this];grind
 ·refine(fV L.pos).1 ?_;rw[bE,di,bm,bm,bE,bE];have:=g.2;rw[this];grind
theorem fS{T:LL}(y:Et T):dE T (sX y)=y:=bn _ _
theorem TF{r:Nat}(tw:Tw ts r)(Ir:∀X:Et ts,0<ao X->dj (aX ts (sX X))){p q:P2 ts}{z z2:Et ts}(h0:gh p q z z2=0)(hz:0<ao z) :
  ∀x∈(eP p q z z2).ps,CirG ts (eP p q z z2).ts x p q z z2:=by
 intro x;unfold gh mJ at h0;unfold eP;split
 ·rename_i hd;rw[aoz hd]at h0;unfold pY;split
  ·intro hx;cases hx
  ·intro hx;cases hx
 ·rename_i hd;have df:=Km tw hd;split
  ·intro hx;cases hx
  ·rename_i hn;split
   ·rename_i hX;intro hx;rw[alr.1 hx];have hp:dj ts:=tw.pos;refine FN (oN hp) df (t:=0) ?_ ?_ ?_
    ·refine((fV hp).2 ?_).trans ((fV hp).2 ?_).symm
     ·rw[show(0:Et ts)*0=0 by grind];exact(eG _ _ hp).zero
     ·rw[dH];exact hX
    ·rw[dH,dH,fS];grind
    ·rw[dH,dH,fS];grind
   ·rename_i hX;have tl:0<ao (bC p z q z2):=by omega
    have hp:=Ir _ tl;intro hx;have L:=vJ (bC p z q z2) hp;have e:=DJ (bC p z q z2);rcases an9.1 hx with rfl |hx
    ·refine FN L df (t:=bM (bC p z q z2)) (by rw[e]; rfl) ?_ ?_
     ·rw[fS];exact ao6 Prod.fst (xX (bC p z q z2) (dT p q z z2) p q)
     ·rw[fS];exact ao6 Prod.snd (xX (bC p z q z2) (dT p q z z2) p q)
    ·rw[alr.1 hx];refine FN L df (t:=-bM (bC p z q z2)) (by rw[show -bM (bC p z q z2)*-bM (bC p z q z2)=bM (bC p z q z2)*bM (bC p z q z2) by grind,e]; rfl) ?_ ?_
     ·rw[fS,ao6 Prod.fst (BS (bC p z q z2) (dT p q z z2) p q)];show aQ _ _-_*aQ _ _=aQ _ _+-_*aQ _ _;grind
     ·rw[fS,ao6 Prod.snd (BS (bC p z q z2) (dT p q z z2) p q)];show aQ _ _-_*aQ _ _=aQ _ _+-_*aQ _ _;grind
structure LinG(ts T:LL)(x:List Rat×List Rat)(p q c:P2 ts)(z:Et ts):Prop where
  lf:Lf ts T
  c:ao ((dE T x.1-ax T c.1)*(dE T x.1-ax T c.1)+(dE T x.2-ax T c.2)*(dE T x.2-ax T c.2)-ax T z)=0
  l:ao ((ax T q.1-ax T p.1)*(dE T x.2-ax T p.2)-(ax T q.2-ax T p.2)*(dE T x.1-ax T p.1))=0
theorem Zo{R:Type}[CommRing R]{f:Et ts->R}(h:Hm f){p q c:P2 ts}{z:Et ts}(hd:ao (a9 p q)≠0){t:R}(ht:t*t=f (aW p q c z)){x y:R}
  (hx:x=f (dz p (bX p q c*iE (a9 p q)) (aO q p)).1+t*f (ji p q).1) (hy:y=f (dz p (bX p q c*iE (a9 p q)) (aO q p)).2+t*f (ji p q).2) :
  (x-f c.1)*(x-f c.1)+(y-f c.2)*(y-f c.2)=f z/\(f q.1-f p.1)*(y-f p.2)-(f q.2-f p.2)*(x-f p.1)=0:=by
 have hi:=h.inv _ hd
 have eS:f (a9 p q)=(f q.1-f p.1)*(f q.1-f p.1)+(f q.2-f p.2)*(f q.2-f p.2):=by
  show f ((q.1-p.1)*(q.1-p.1)+(q.2-p.2)*(q.2-p.2))=_;simp only[h.add,h.mul,h.sub]
 have eE:f (bX p q c)=(f q.1-f p.1)*(f c.1-f p.1)+(f q.2-f p.2)*(f c.2-f p.2):=by
  show f ((q.1-p.1)*(c.1-p.1)+(q.2-p.2)*(c.2-p.2))=_;simp only[h.add,h.mul,h.sub]
 have eC:f (kr p q c)=(f q.1-f p.1)*(f c.2-f p.2)-(f q.2-f p.2)*(f c.1-f p.1):=by
  show f ((q.1-p.1)*(c.2-p.2)-(q.2-p.2)*(c.1-p.1))=_;simp only[h.mul,h.sub]
 have eX:f (aW p q c z)=f (a9 p q)*f z-f (kr p q c)*f (kr p q c):=by
  show f (a9 p q*z-kr p q c*kr p q c)=_;simp only[h.mul,h.sub]
 rw[eX,eC,eS]at ht;rw[eS]at hi;refine abf hi ht (k:=(f (bX p q c)+t)*f (iE (a9 p q))) (by rw[eE]) ?_ ?_
 ·rw[hx];unfold dz ji;show f (p.1+bX p q c*iE (a9 p q)*(q.1-p.1))+t*f (qE ((1:Int):Rat)*iE (a9 p q)*(q.1-p.1))=_;simp only[h.add,h.mul,h.sub,h.q1];generalize f (iE (a9 p q))=i;generalize f (bX p q c)=e;clear ht hi hx hy eS eE eC eX;grind
 ·rw[hy];unfold dz ji;show f (p.2+bX p q c*iE (a9 p q)*(q.2-p.2))+t*f (qE ((1:Int):Rat)*iE (a9 p q)*(q.2-p.2))=_;simp only[h.add,h.mul,h.sub,h.q1];generalize f (iE (a9 p q))=i;generalize f (bX p q c)=e;clear ht hi hx hy eS eE eC eX;grind
theorem GL{T:LL}(L:Lf ts T){x:List Rat×List Rat}{p q c:P2 ts}{z:Et ts}(hd:ao (a9 p q)≠0){t:Et T}(ht:ae L.pos (t*t)=ae L.pos (ax T (aW p q c z)))
  (hx:dE T x.1=ax T (dz p (bX p q c*iE (a9 p q)) (aO q p)).1+t*ax T (ji p q).1) (hy:dE T x.2=ax T (dz p (bX p q c*iE (a9 p q)) (aO q p)).2+t*ax T (ji p q).2):LinG ts T x p q c z:=by
 have g:=Zo L.hm hd (t:=ae L.pos t) ht (x:=ae L.pos (dE T x.1)) (y:=ae L.pos (dE T x.2)) (by rw[hx];rfl) (by rw[hy];rfl);refine⟨L,?_,?_⟩
 ·refine(fV L.pos).1 ?_;rw[bE,di,bm,bm,bE,bE];have:=g.1;rw[this];grind
 ·refine(fV L.pos).1 ?_;rw[bE,bm,bm,bE,bE,bE,bE];exact g.2
theorem acv{r:Nat}(tw:Tw ts r)(Ir:∀X:Et ts,0<ao X->dj (aX ts (sX X))){p q c:P2 ts}{z:Et ts}(h0:f7 p q=0) :
  ∀x∈(eM p q c z).ps,LinG ts (eM p q c z).ts x p q c z:=by
 intro x;unfold f7 at h0;unfold eM;split
 ·intro hx;cases hx
 ·rename_i hd;split
  ·intro hx;cases hx
  ·rename_i hn;split
   ·rename_i hX;intro hx;rw[alr.1 hx];have hp:dj ts:=tw.pos;refine GL (oN hp) hd (t:=0) ?_ ?_ ?_
    ·refine((fV hp).2 ?_).trans ((fV hp).2 ?_).symm
     ·rw[show(0:Et ts)*0=0 by grind];exact(eG _ _ hp).zero
     ·rw[dH];exact hX
    ·rw[dH,dH,fS];grind
    ·rw[dH,dH,fS];grind
   ·rename_i hX
    have tl:0<ao (aW p q c z):=by
     rcases(eG _ _ tw.pos).cs (aW p q c z)with g |g |g
     ·exact ao5 g hn
     ·exact ao5 g hX
     ·show 0<sg _ _ _;rw[g];decide
    have hp:=Ir _ tl;intro hx;have L:=vJ (aW p q c z) hp;have e:=DJ (aW p q c z);rcases an9.1 hx with rfl |hx
    ·refine GL L hd (t:=bM (aW p q c z)) (by rw[e]; rfl) ?_ ?_
     ·rw[fS];exact ao6 Prod.fst (AU (aW p q c z) p q c)
     ·rw[fS];exact ao6 Prod.snd (AU (aW p q c z) p q c)
    ·rw[alr.1 hx];refine GL L hd (t:=-bM (aW p q c z)) (by rw[show -bM (aW p q c z)*-bM (aW p q c z)=bM (aW p q c z)*bM (aW p q c z) by grind,e]; rfl) ?_ ?_
     ·rw[fS,ao6 Prod.fst (B3 (aW p q c z) p q c)];show aQ _ _-_*aQ _ _=aQ _ _+-_*aQ _ _;grind
     ·rw[fS,ao6 Prod.snd (B3 (aW p q c z) p q c)];show aQ _ _-_*aQ _ _=aQ _ _+-_*aQ _ _;grind
end
theorem GN(r:(k:Nat)->T k)(q:Rat):∀(k:Nat){a c:List Rat},(∀i,i<2^k->c.getD i 0=q*a.getD i 0)->af k c=T.mul r k (T.ofQ k q) (af k a)
 |0,a,c,h=>h 0 (by decide)
 |k+1,a,c,h=>by
  have h1:=GN r q k (a:=a.take (2^k)) (c:=c.take (2^k)) (fun i hi=>by rw[o4,o4,aoz hi,aoz hi];exact h i (by rw[ajq];omega));have h2:=GN r q k (a:=a.drop (2^k)) (c:=c.drop (2^k)) (fun i hi=>by rw[oU,oU];exact h _ (by rw[ajq];omega));show(af k (c.take (2^k)),af k (c.drop (2^k)))=T.mul r (k+1) (T.ofQ k q,T.zero k) (af k (a.take (2^k)),af k (a.drop (2^k)));rw[T.mul_comm,T.mul_half,h1,h2,T.mul_comm r k (af k (a.take _)),T.mul_comm r k (af k (a.drop _))]
section
variable{ts:LL}
def Bz(e:Nat)(x:Et ts):Prop:=Nm ts.length e (sX x)
theorem Bz.mono{e f:Nat}{x:Et ts}(h:Bz e x)(hf:e<=f):Bz f x:=Nm.mono h hf
theorem Bz.add{e f:Nat}{x y:Et ts}(hx:Bz e x)(hy:Bz f y):Bz (e+f+1) (x+y):=Nm.addT hx hy
theorem Bz.sub{e f:Nat}{x y:Et ts}(hx:Bz e x)(hy:Bz f y):Bz (e+f+1) (x-y):=Nm.subT hx hy
theorem Bz.neg{e:Nat}{x:Et ts}(hx:Bz e x):Bz e (-x):=Nm.negT hx
theorem Bz.mul{r K e f:Nat}(tw:Tw ts r)(hK:eB r ts.length<=K){x y:Et ts}(hx:Bz e x)(hy:Bz f y):Bz (e+f+K) (x*y):=by
 have h:=Nm.mul tw rfl hx hy;have e1:∀z:Et ts,af ts.length (sX z)=z:=fun z=>bn _ _
 rw[e1,e1]at h;exact Nm.mono h (Nat.add_le_add_left hK _)
theorem Bz.q{e:Nat}{q:Rat}(h5:ts.length<=5)(hq:Cb e [q]):Bz e (qE q:Et ts):=by
 unfold Bz;rw[yD];exact Nm.ofQ h5 hq
theorem Bz.qm{e f:Nat}{q:Rat}{x:Et ts}(hq:Cb e [q])(hx:Bz f x):Bz (e+f) (qE q*x):=by
 obtain⟨D,N,h1,h2,h3⟩:=hq;obtain⟨D',N',k1,k2,k3⟩:=hx.cb;obtain⟨n,hn,hN⟩:=h1.2 q (alr.2 rfl);have o6:af ts.length (sX x)=x:=bn _ _
 have hd:af ts.length ((sX x).map (q*·))=T.mul (az ts) ts.length (T.ofQ ts.length q) (af ts.length (sX x)):=GN _ q _ (fun i _=>by
  rw[anm,anr,anm];cases(sX x)[i]? with
  |none=>exact(Rat.mul_zero q).symm
  |some v=>rfl)
 rw[o6]at hd
 have hc:Cb (e+f) ((sX x).map (q*·)):=by
  refine⟨D*D',N*N',⟨aju h1.1 k1.1,?_⟩,?_,?_⟩
  ·intro z hz;obtain⟨y,hy,rfl⟩:=al0.1 hz;obtain⟨m,hm,hM⟩:=k1.2 y hy;refine⟨n*m,?_,?_⟩
   ·rw[Int.natCast_mul,ami,ami,<- hn,<- hm];grind
   ·rw[al3];exact akw hN hM
  ·rw[aoo];exact akw h2 k2
  ·rw[aoo];exact akw h3 k3
 have fA:Nl ts.length ((sX x).map (q*·)):=by
  rcases hx.nl with h |⟨j,hj,h⟩
  ·exact .inl (by rw[h];rfl)
  ·exact .inr ⟨j,hj,by rw[anl];exact h⟩
 refine⟨hx.five,ek _ _,?_⟩;have:=hc.sh fA;rw[hd]at this;exact this
theorem Bz.mq{e f:Nat}{q:Rat}{x:Et ts}(hx:Bz f x)(hq:Cb e [q]):Bz (e+f) (x*qE q):=by
 rw[show x*qE q=qE q*x by grind];exact hx.qm hq
theorem Bz.iq{e f:Nat}{q:Rat}{x:Et ts}(hx:Bz f x)(hq:Cb e [q])(h0:q≠0):Bz (e+f) (x*iE (qE q)):=by
 have h:(iE (qE q):Et ts)=qE (1/q):=CR _ _ q;rw[h];exact hx.mq (hq.inv1 h0)
theorem Bz.iv{r f j I:Nat}{y:Et ts}(tw:Tw ts r)(hy:Bz f y)(nb:Nl j (sX y))(hj:j<=ts.length)(h0:ao y≠0)(hI:iB r j f<=I)(hs:I<=50000000000):Bz I (iE y):=by
 have hf:=E7 r j f;have hl:=oT ts.length;have e1:af ts.length (sX y)=y:=bn _ _;obtain⟨L,_,k2,k3,k4⟩:=E5 (b:=sX y) tw hy hj nb (by rw[e1];exact h0) oz oz;rw[e1]at k4;have:=k3.sh k2;rw[k4]at this;exact⟨tw.five,ek _ _,this.mono hI⟩
structure Pz(n ec ex:Nat)(p:Pq):Prop where
  c:Nm n ec p.c
  s:Nm n ec p.s
  x:Nm n ex p.x
  y:Nm n ex p.y
theorem Pz.mono{n n' a b a' b':Nat}{p:Pq}(h:Pz n a b p)(hn:n<=n')(h5:n'<=5)(ha:a<=a')(hb:b<=b'):Pz n' a' b' p :=
 ⟨⟨h5,h.c.nl.mono hn,h.c.cb.mono ha⟩,⟨h5,h.s.nl.mono hn,h.s.cb.mono ha⟩,⟨h5,h.x.nl.mono hn,h.x.cb.mono hb⟩,⟨h5,h.y.nl.mono hn,h.y.cb.mono hb⟩⟩
theorem Oy{s t e f:Nat}{u p:Rat×Rat}{w o:P2 ts}(hu:Sm t u)(hp:Sm s p)(h0:cf u u≠0)(w1:Bz e w.1)(w2:Bz e w.2)(o1:Bz f o.1)(o2:Bz f o.2) :
  Pz ts.length (2*e+6*t+2) (f+4*e+12*t+2*s+6) (jK u w p o):=by
 have u1:=Cb.one hu.x;have u2:=Cb.one hu.y;have p1:=Cb.one hp.x;have p2:=Cb.one hp.y;have n:=Cb.one (hu.dot hu);have c:=(((w1.qm u1).add (w2.qm u2)).iq n h0).mono (f:=2*e+6*t+2) oz;have d:=(((w2.qm u1).sub (w1.qm u2)).iq n h0).mono (f:=2*e+6*t+2) oz;exact⟨c,d,(o1.sub ((c.mq p1).sub (d.mq p2))).mono oz,(o2.sub ((d.mq p1).add (c.mq p2))).mono oz⟩
theorem wi{a:List Rat}{e:Nat}(h:Nm ts.length e a):Bz e (dE ts a):=by
 have:=h.cb.sh h.nl;exact⟨h.five,ek _ _,this⟩
theorem XL{s f:Nat}{p:Rat×Rat}{c d:Rat}{o:P2 ts}{g:Nat}(hc:Cb g [c])(hd:Cb g [d])(hp:Sm s p)(h5:ts.length<=5)(o1:Bz f o.1)(o2:Bz f o.2) :
  Pz ts.length (g+1) (f+2*g+2*s+4) (jK (((1:Int):Rat),0) ((qE c,qE d):P2 ts) p o):=by
 have e0:∀x:Et ts,(qE ((1:Int):Rat):Et ts)*x=x:=fun x=>by
  have:(qE ((1:Int):Rat):Et ts)=1:=rfl;rw[this];grind
 have e1:∀x:Et ts,(qE (0:Rat):Et ts)*x=0:=fun x=>by
  have:(qE (0:Rat):Et ts)=0:=rfl;rw[this];grind
 have e2:(iE (ol (((1:Int):Rat),0)):Et ts)=1:=by
  show iE (qE (cf (((1:Int):Rat),0) (((1:Int):Rat),0)))=_;rw[show cf (((1:Int):Rat),(0:Rat)) (((1:Int):Rat),(0:Rat))=1 by decide +kernel];exact En
 have ec:eF (((1:Int):Rat),0) ((qE c,qE d):P2 ts)=qE c:=by
  unfold eF;rw[e0,e1,e2];grind
 have ed:dY (((1:Int):Rat),0) ((qE c,qE d):P2 ts)=qE d:=by
  unfold dY;rw[e0,e1,e2];grind
 have p1:=Cb.one hp.x;have p2:=Cb.one hp.y;have c1:Bz g (qE c:Et ts):=Bz.q h5 hc;have d1:Bz g (qE d:Et ts):=Bz.q h5 hd;refine⟨?_,?_,?_,?_⟩
 ·show Bz _ (eF _ _);rw[ec];exact c1.mono oz
 ·show Bz _ (dY _ _);rw[ed];exact d1.mono oz
 ·show Bz _ (wC _ _ p o);unfold wC;rw[ec,ed];exact(o1.sub ((c1.mq p1).sub (d1.mq p2))).mono oz
 ·show Bz _ (vP _ _ p o);unfold vP;rw[ec,ed];exact(o2.sub ((d1.mq p1).add (c1.mq p2))).mono oz
structure Xz(ts:LL)(r X:Nat)(us:LL):Prop where
  tw:Tw us (r+X)
  up:ts.length<=us.length
  ln:us.length<=ts.length+1
theorem EM{r X:Nat}(tw:Tw ts r)(hx:r+X<=5000000000):Xz ts r X ts:=⟨⟨tw.three,tw.len,tw.pos,tw.rb.mono oz,hx⟩,anp _,by omega⟩
theorem CD{r X:Nat}(tw:Tw ts r)(hn:ts.length<=1)(hx:r+X<=5000000000){x:Et ts}(h:Bz X x)(hs:0<=ao x):Xz ts r X (aX ts (sX x)) :=
 ⟨Gx tw oz h hx (by rw[show af ts.length (sX x)=x from bn _ _];exact hs),by rw[e8];omega,by rw[e8];omega⟩
theorem Bz.up{e:Nat}{X x:Et ts}(h:Bz e x)(hn:ts.length<=1):Bz e (aQ X x):=by
 have h1:Nm (aX ts (sX X)).length e (sX x):=qX h oz;exact wi h1
structure Szs(n r a b X K K' I J:Nat):Prop where
  n1:n<=1
  hK:eB r n<=K
  hX:24*a+8*K+5*b+23<=X
  hL:r+X<=5000000000
  hK':eB (r+X) (n+1)<=K'
  hI:iB r n (8*a+2*K+8)<=I
  hJ:iB (r+X) n (8*a+2*K+8)<=J
  hJ':J<=50000000000
  kk:K<=K'
  ij:I<=J
theorem Szs.kx{n r a b X K K' I J:Nat}(h:Szs n r a b X K K' I J){us:LL}(hu:us.length<=n+1):eB (r+X) us.length<=K':=an4 (kl _ hu) h.hK'
section
variable{r a b X K K' I J:Nat}(Z:Szs ts.length r a b X K K' I J)(tw:Tw ts r)
include Z tw
theorem Gp{p q:P2 ts}(p1:Bz a p.1)(p2:Bz a p.2)(q1:Bz a q.1)(q2:Bz a q.2):Bz (8*a+2*K+5) (db (aO q p) (aO q p)):=by
 have v1:=q1.sub p1;have v2:=q2.sub p2;exact((v1.mul tw Z.hK v1).add (v2.mul tw Z.hK v2)).mono oz
theorem Gg{y:Et ts}(hy:Bz (8*a+2*K+8) y)(h0:ao y≠0):Bz I (iE y) :=
 hy.iv tw (ek _ _) (anp _) h0 Z.hI (by have:=Z.ij;have:=Z.hJ';omega)
theorem Hu{x y:Et ts}(hx:Bz X x)(hs:0<=ao x)(hy:Bz (8*a+2*K+8) y)(h0:ao y≠0):Bz J (iE (aQ x y)):=by
 have E:=CD tw Z.n1 Z.hL hx hs
 have e1:sX (aQ x y)=sX y:=by
  have:=(AQ (X:=x) Z.n1 _ y hy).2;exact this
 refine(hy.up Z.n1).iv E.tw (j:=ts.length) (by rw[e1];exact ek _ _) E.up (by rw[um];exact h0) Z.hJ Z.hJ'
theorem Gf{x:Et ts}:Bz 1 (dE (aX ts (sX x)) (cW ts.length)):=by have _:=tw;exact wi (yq (by have:=Z.n1;omega))
theorem aep{p q:P2 ts}{z z2:Et ts}(p1:Bz a p.1)(p2:Bz a p.2)(q1:Bz a q.1)(q2:Bz a q.2)(hz:Bz b z)(kF:Bz b z2)(h0:gh p q z z2=0) :
  Xz ts r X (eP p q z z2).ts/\∀m∈(eP p q z z2).ps,Nm (eP p q z z2).ts.length (13*a+2*b+5*K+2*K'+I+J+20) m.1/\Nm (eP p q z z2).ts.length (13*a+2*b+5*K+2*K'+I+J+20) m.2:=by
 have hn:=Z.n1;have eV:=Z.kk;have hd:Bz (8*a+2*K+5) (aC p q):=Gp Z tw (p:=q) (q:=p) q1 q2 p1 p2;have hm:=(hz.add hd).sub kF;have q4:Cb 3 [((4:Int):Rat)]:=Cb.int (z:=4) (by decide);have q2':Cb 2 [((2:Int):Rat)]:=Cb.int (z:=2) (by decide);have qm1:Cb 1 [((-1:Int):Rat)]:=Cb.int (z:=-1) (by decide)
 have hX:Bz X (bC p z q z2):=by
  have h:=((hz.mul tw Z.hK hd).qm q4).sub (hm.mul tw Z.hK hm);have h2:=h.mono (f:=X) (by have:=Z.hX;omega);exact h2
 have same:=EM (X:=X) tw Z.hL;have v1:=q1.sub p1;have v2:=q2.sub p2;unfold gh mJ at h0;unfold eP pY
 by_cases hs:ao (aC p q)=0
 ·rw[aoz hs]at h0 ⊢
  by_cases da:ao (z-z2)≠0
  ·rw[aoz da];exact⟨same,fun m hm=>by cases hm⟩
  ·rw[aoy da]
   by_cases hp:0<ao z
   ·rw[aoz ⟨anj.1 da,hp⟩]at h0;cases h0
   ·rw[aoy hp]
    have n0:Bz 0 (0:Et ts):=by
     have:=Bz.q (ts:=ts) (e:=0) (q:=0) oz (Cb.int (z:=0) (by decide));exact this
    refine⟨same,kW ⟨?_,?_⟩⟩
    ·exact(p1.add (n0.mul tw Z.hK p1)).mono (f:=13*a+2*b+5*K+2*K'+I+J+20) oz
    ·exact(p2.add (n0.mul tw Z.hK p2)).mono (f:=13*a+2*b+5*K+2*K'+I+J+20) oz
 ·rw[aoy hs];have tk:ao (f9 (aC p q))≠0:=by rw[A9 tw]; exact hs
  have ht:Bz (8*a+2*K+8) (f9 (aC p q)):=Bz.mono (e:=2+(8*a+2*K+5)) (hd.qm q2') oz
  by_cases iH:ao (bC p z q z2)<0
  ·rw[aoz iH];exact⟨same,fun m hm=>by cases hm⟩
  ·rw[aoy iH];have hk:=hm.mul tw Z.hK (Gg Z tw ht tk);have f1:Bz (11*a+2*b+4*K+I+10) (dT p q z z2).1:=(p1.add (hk.mul tw Z.hK v1)).mono oz;have f2:Bz (11*a+2*b+4*K+I+10) (dT p q z z2).2:=(p2.add (hk.mul tw Z.hK v2)).mono oz
   by_cases mj:ao (bC p z q z2)=0
   ·rw[aoz mj];exact⟨same,kW ⟨f1.mono oz,f2.mono oz⟩⟩
   ·rw[aoy mj];have jB:0<=ao (bC p z q z2):=by omega
    have E:=CD tw hn Z.hL hX jB;have jf:=Z.kx E.ln;have s1:=(Gf Z tw (x:=bC p z q z2)).mul E.tw jf (Hu Z tw hX jB ht tk);have s2:=s1.qm qm1;have w1:=(v2.up (X:=bC p z q z2) hn).qm qm1;have w2:=v1.up (X:=bC p z q z2) hn;have g1:=f1.up (X:=bC p z q z2) hn;have g2:=f2.up (X:=bC p z q z2) hn;exact⟨E,pS ⟨(g1.add (s1.mul E.tw jf w1)).mono oz,(g2.add (s1.mul E.tw jf w2)).mono oz⟩ ⟨(g1.add (s2.mul E.tw jf w1)).mono oz,(g2.add (s2.mul E.tw jf w2)).mono oz⟩⟩
theorem afi{p q o:P2 ts}{z:Et ts}(p1:Bz a p.1)(p2:Bz a p.2)(q1:Bz a q.1)(q2:Bz a q.2)(o1:Bz a o.1)(o2:Bz a o.2)(hz:Bz b z)(h0:f7 p q=0) :
  Xz ts r X (eM p q o z).ts/\∀m∈(eM p q o z).ps,Nm (eM p q o z).ts.length (13*a+2*b+5*K+2*K'+I+J+20) m.1/\Nm (eM p q o z).ts.length (13*a+2*b+5*K+2*K'+I+J+20) m.2:=by
 have hn:=Z.n1;have eV:=Z.kk;have hS:=(Gp Z tw p1 p2 q1 q2)
 have v1:=q1.sub p1;have v2:=q2.sub p2;have w1:=o1.sub p1;have w2:=o2.sub p2;have hE:Bz (8*a+2*K+5) (bX p q o):=((v1.mul tw Z.hK w1).add (v2.mul tw Z.hK w2)).mono oz;have hC:Bz (8*a+2*K+5) (kr p q o):=((v1.mul tw Z.hK w2).sub (v2.mul tw Z.hK w1)).mono oz;have hX:Bz X (aW p q o z):=((hS.mul tw Z.hK hz).sub (hC.mul tw Z.hK hC)).mono (by have:=Z.hX;omega);have same:=EM (X:=X) tw Z.hL;unfold f7 at h0;unfold eM
 by_cases hs:ao (a9 p q)=0
 ·rw[aoz hs]at h0;cases h0
 ·rw[aoy hs]
  by_cases h1:ao (aW p q o z)=-1
  ·rw[aoz h1];exact⟨same,fun m hm=>by cases hm⟩
  ·rw[aoy h1]
   by_cases h2:ao (aW p q o z)=0
   ·rw[aoz h2];have hk:=hE.mul tw Z.hK (Gg Z tw (hS.mono oz) hs);exact⟨same,kW ⟨(p1.add (hk.mul tw Z.hK v1)).mono (f:=13*a+2*b+5*K+2*K'+I+J+20) oz,(p2.add (hk.mul tw Z.hK v2)).mono (f:=13*a+2*b+5*K+2*K'+I+J+20) oz⟩⟩
   ·rw[aoy h2]
    have jB:0<=ao (aW p q o z):=by
     have:=T.sgn_cases (az ts) ts.length (aW p q o z);have e:ao (aW p q o z)=T.sgn (az ts) ts.length (aW p q o z):=rfl;omega
    have E:=CD tw hn Z.hL hX jB;have jf:=Z.kx E.ln;have hi:=Hu Z tw hX jB (hS.mono oz) hs;have rt:=Gf Z tw (x:=aW p q o z);have k1:=((hE.up (X:=aW p q o z) hn).add rt).mul E.tw jf hi;have k2:=((hE.up (X:=aW p q o z) hn).sub rt).mul E.tw jf hi;have g1:=p1.up (X:=aW p q o z) hn;have g2:=p2.up (X:=aW p q o z) hn;have u1:=v1.up (X:=aW p q o z) hn;have u2:=v2.up (X:=aW p q o z) hn;exact⟨E,pS ⟨(g1.add (k1.mul E.tw jf u1)).mono oz,(g2.add (k1.mul E.tw jf u2)).mono oz⟩ ⟨(g1.add (k2.mul E.tw jf u1)).mono oz,(g2.add (k2.mul E.tw jf u2)).mono oz⟩⟩
end
end
def Cs(s:Nat)(l:Li):Prop:=∀b∈l.bo,∀m∈b.pts,Qb s m.x.q/\Qb s m.y.q
section
variable{s:Nat}{l:Li}(hl:l.ok)(au:aM l=0)(co:Cs s l)
include hl au co
theorem y7{body pt:Int}(h1:bT body l.bo.length=true)(h2:bT pt (dw l body).length=true):Sm s (aE l body pt):=by
 obtain⟨n,k,bd,m,h⟩:=v6 hl au h1 h2;obtain⟨c1,c2⟩:=co bd (ank h.gbd) m (ank h.gm);rw[h.ex,b7]at c1;rw[h.ey,b7]at c2;exact⟨c1,c2⟩
theorem tN{i:Nat}{j:Jt}(hj:l.jo[i]?=some j){b:Int}(h:j.a=b\/j.b=b):Sm s (ak l j b):=by
 obtain⟨i1,i2,i3,i4,_⟩:=dZ au hj;unfold ak
 by_cases e:j.a=b
 ·rw[aoz e];subst e;exact y7 hl au co i1 i3
 ·rw[aoy e];rcases h with h |h
  ·exact ao5 h e
  ·subst h;exact y7 hl au co i2 i4
theorem xC{E r K:Nat}{a:As}(al:AB a)(hc:bB a.rs=0)(tw:Tw (llq a.rs) r)(hK:eB r (llq a.rs).length<=K){body pt:Int}(h1:bT body l.bo.length=true)(h2:bT pt (dw l body).length=true)(hb:Pd E a body) :
  Bz (3*E+2*s+2*K+10) (bh l a body pt).1/\Bz (3*E+2*s+2*K+10) (bh l a body pt).2:=by
 obtain⟨n,k,bd,m,b,hp⟩:=B9 hl au al hc h1 h2 hb;obtain⟨c1,c2⟩:=co bd (ank hp.mp.gbd) m (ank hp.mp.gm);have h:=Hj tw hp.ok c1 c2;have hk:kB r (llq a.rs).length<=K:=hK;unfold bh Bz;rw[hp.eq];exact⟨h.1.mono oz,h.2.mono oz⟩
theorem zG{E r K:Nat}{a:As}(al:AB a)(hc:bB a.rs=0)(tw:Tw (llq a.rs) r)(hK:eB r (llq a.rs).length<=K){i:Nat}{j:Jt}(hj:l.jo[i]?=some j){b:Int}(h:PinP E l a j b) :
  Bz (3*E+2*s+2*K+10) (aH l a j b).1/\Bz (3*E+2*s+2*K+10) (aH l a j b).2:=by
 obtain⟨i1,i2,i3,i4,_⟩:=dZ au hj;unfold aH;rcases h.tie with⟨e,hb⟩ |⟨e,e2,hb⟩
 ·rw[aoz e];exact xC hl au co al hc tw hK i2 i4 hb
 ·rw[aoy e];exact xC hl au co al hc tw hK i1 i3 hb
end
theorem Bz.upX{ts us:LL}{e:Nat}{x:Et ts}(h:Bz e x)(h1:ts.length<=us.length)(h5:us.length<=5):Bz e (dE us (sX x)):=wi ⟨h5,Nl.mono h.nl h1,h.cb⟩
theorem GO{s:Nat}{p q:Rat×Rat}(hp:Sm s p)(hq:Sm s q):Cb (8*s+5) [bq p q]:=by
 have h:=(hp.sub hq).dot (hp.sub hq);exact Cb.one (h.mono oz)
abbrev wZ(a b K K' I J:Nat):Nat:=14*a+3*b+5*K+3*K'+I+J+25
abbrev oZ(s a b K K' I J:Nat):Nat:=a+4*wZ a b K K' I J+26*s+18
theorem FG{n a b ec ex e:Nat}{p:Pq}(h:Pz n ec ex p)(h1:ec<=e)(h2:ex<=e):Pq.ok n e p:=⟨h.c.mono h1,h.s.mono h1,h.x.mono h2,h.y.mono h2⟩
section
variable{ts:LL}{r a b X K K' I J:Nat}(Z:Szs ts.length r a b X K K' I J)(tw:Tw ts r)
include Z tw
theorem OD{s:Nat}{m:Mt}(hx:Xz ts r X m.ts)(hm:∀x∈m.ps,Nm m.ts.length (13*a+2*b+5*K+2*K'+I+J+20) x.1/\Nm m.ts.length (13*a+2*b+5*K+2*K'+I+J+20) x.2){hs:List Hd}
  (hh:∀h∈hs,Sm s h.p/\Sm s h.c/\cf (bS h.c h.p) (bS h.c h.p)≠0/\∃o:P2 ts,h.a=P2.l o/\Bz a o.1/\Bz a o.2) :
  ∀sv∈mX m hs,Xz ts r X sv.ts/\∀p∈sv.ps,Pq.ok sv.ts.length (oZ s a b K K' I J) p:=by
 have _:=Z;have _:=tw;intro sv h1;unfold mX at h1;obtain⟨i,hi,rfl⟩:=al0.1 h1;obtain⟨x,Ae⟩:=aB (alh.1 hi);obtain⟨n1,n2⟩:=hm x (ank Ae);refine⟨hx,fun p hp=>?_⟩;unfold kV at hp;rw[aw Ae]at hp;obtain⟨h,h2,rfl⟩:=al0.1 hp;obtain⟨tj,jc,h0,o,ea,o1,o2⟩:=hh h h2;have h5:=hx.tw.five;have u1:=o1.upX hx.up h5;have u2:=o2.upX hx.up h5;have w1:=wi n1;have w2:=wi n2;have e1:h.a.1=sX o.1:=by rw[ea]
 have e2:h.a.2=sX o.2:=by rw[ea]
 have z:=Oy (ts:=m.ts) (u:=bS h.c h.p) (p:=h.p) (w:=m9 m.ts h x) (o:=oP m.ts h) (e:=13*a+2*b+5*K+2*K'+I+J+20+a+1) (f:=a) (jc.sub tj) tj h0
  (by unfold m9;rw[e1];exact w1.sub u1) (by unfold m9;rw[e2];exact w2.sub u2) (by unfold oP;rw[e1];exact u1) (by unfold oP;rw[e2];exact u2)
 exact FG (a:=a) (b:=b) z (by show _<=a+4*(14*a+3*b+5*K+3*K'+I+J+25)+26*s+18;omega) (by show _<=a+4*(14*a+3*b+5*K+3*K'+I+J+25)+26*s+18;omega)
theorem ahf{s:Nat}{us:LL}(hx:Xz ts r X us){R:Rp}{q:List Rat}(hv:Sm (2*s+1) R.v)(hp:Sm s R.p)(h0:cf R.v R.v≠0)(hq:Bz 1 (dE us q))(w1:Bz (2*a+1) (dE us R.w.1))(w2:Bz (2*a+1) (dE us R.w.2))(hh:Bz b (dE us R.h))
  (hd:Bz J (iE (dE us R.d))) (a1:Bz a (dE us R.a.1)) (a2:Bz a (dE us R.a.2)):Pq.ok us.length (oZ s a b K K' I J) (sP us R q):=by
 have _:=tw;have jf:=Z.kx hx.ln;have x1:=(((hq.mul hx.tw jf w1).sub (hh.mul hx.tw jf w2.neg)).mul hx.tw jf hd)
 have x2:=(((hq.mul hx.tw jf w2).sub (hh.mul hx.tw jf w1)).mul hx.tw jf hd)
 have z:=Oy (ts:=us) (u:=R.v) (p:=R.p) (w:=r5 us q R.h R.d R.w) (o:=(dE us R.a.1,dE us R.a.2)) (e:=wZ a b K K' I J) (f:=a) hv hp h0
  (x1.mono (by show _<=14*a+3*b+5*K+3*K'+I+J+25;omega)) (x2.mono (by show _<=14*a+3*b+5*K+3*K'+I+J+25;omega)) a1 a2
 exact FG (a:=a) (b:=b) z (by show _<=a+4*(14*a+3*b+5*K+3*K'+I+J+25)+26*s+18;simp only[wZ];omega) (by show _<=a+4*(14*a+3*b+5*K+3*K'+I+J+25)+26*s+18;simp only[wZ];omega)
end
section
variable{s r b X K K' I J E:Nat}{l:Li}{a:As}(D:DyR l a)(hn:(llq a.rs).length<=1)(co:Cs s l)(tw:Tw (llq a.rs) r)
  (Z:Szs (llq a.rs).length r (3*E+2*s+2*K+10) b X K K' I J) (hb:8*s+5<=b)
include D hn co tw Z hb
theorem agj{g:Gr}{i k z0 z1 z2:Int}{j0 j1 j2:Jt}(P:RrrP E l a g i k z0 z1 z2 j0 j1 j2) :
  ∀sv∈kN l a i k j0 j1 j2,Xz (llq a.rs) r X sv.ts/\∀p∈sv.ps,Pq.ok sv.ts.length (oZ s (3*E+2*s+2*K+10) b K K' I J) p:=by
 have _:=hn;have gp:=tN D.hl D.li co P.h0 P.p0.or;have nI:=tN D.hl D.li co P.h1 P.p1.or;have fB:=tN D.hl D.li co P.h2 P.t1;have pE:=tN D.hl D.li co P.h2 P.t2;obtain⟨y1,y2⟩:=zG D.hl D.li co D.al D.hc tw Z.hK P.h0 P.p0;obtain⟨y3,y4⟩:=zG D.hl D.li co D.al D.hc tw Z.hK P.h1 P.p1;have z1:Bz b (qE (bq (ak l j2 i) (ak l j0 i)):Et (llq a.rs)):=Bz.q tw.five ((GO fB gp).mono hb);have z2:Bz b (qE (bq (ak l j2 k) (ak l j1 k)):Et (llq a.rs)):=Bz.q tw.five ((GO pE nI).mono hb);unfold kN
 by_cases h1:jO [bS (ak l j2 i) (ak l j0 i),bS (ak l j2 k) (ak l j1 k)]=true
 ·rw[aoz h1];intro sv h;cases h
 ·rw[aoy h1];obtain⟨w1,w2⟩:=wb (amx.2 h1)
  by_cases h2:gh (aH l a j0 i) (aH l a j1 k) (qE (bq (ak l j2 i) (ak l j0 i))) (qE (bq (ak l j2 k) (ak l j1 k)))≠0
  ·rw[aoz h2];intro sv h;cases h
  ·rw[aoy h2];obtain⟨hx,hm⟩:=aep Z tw y1 y2 y3 y4 z1 z2 (anj.1 h2);exact OD Z tw hx hm (pS ⟨gp,fB,w1,_,rfl,y1,y2⟩ ⟨nI,pE,w2,_,rfl,y3,y4⟩)
theorem aek{g:Gr}{i z0 z1:Int}{j0 j:Jt}(P:SlP E l a g 2 i z0 z1 j0 j)(ha:j.a=i)(dX:Pd E a j.b) :
  ∀sv∈lh l a i j0 j,Xz (llq a.rs) r X sv.ts/\∀p∈sv.ps,Pq.ok sv.ts.length (oZ s (3*E+2*s+2*K+10) b K K' I J) p:=by
 have _:=hn;obtain⟨i1,i2,i3,i4,i5⟩:=dZ D.li P.h1;have fB:Sm s (aE l i j.point):=by rw[<- ha];exact y7 D.hl D.li co i1 i3
 have gp:=tN D.hl D.li co P.h0 P.p0.or;obtain⟨y1,y2⟩:=zG D.hl D.li co D.al D.hc tw Z.hK P.h0 P.p0;obtain⟨y3,y4⟩:=xC D.hl D.li co D.al D.hc tw Z.hK i2 i4 dX;obtain⟨y5,y6⟩:=xC D.hl D.li co D.al D.hc tw Z.hK i2 (i5 P.hk) dX;have z1:Bz b (qE (bq (aE l i j.point) (ak l j0 i)):Et (llq a.rs)):=Bz.q tw.five ((GO fB gp).mono hb);unfold lh
 by_cases h1:jO [bS (aE l i j.point) (ak l j0 i)]=true
 ·rw[aoz h1];intro sv h;cases h
 ·rw[aoy h1];have w1:=vu (amx.2 h1)
  by_cases h2:f7 (bh l a j.b j.on) (bh l a j.b j.to)≠0
  ·rw[aoz h2];intro sv h;cases h
  ·rw[aoy h2];obtain⟨hx,hm⟩:=afi Z tw y3 y4 y5 y6 y1 y2 z1 (anj.1 h2);exact OD Z tw hx hm (kW ⟨gp,fB,w1,_,rfl,y1,y2⟩)
theorem ac8{g:Gr}{i z0 z1:Int}{j0 j:Jt}(P:SlP E l a g 3 i z0 z1 j0 j)(hj:j.b=i)(dX:Pd E a j.a) :
  ∀sv∈kc l a i j0 j,Xz (llq a.rs) r X sv.ts/\∀p∈sv.ps,Pq.ok sv.ts.length (oZ s (3*E+2*s+2*K+10) b K K' I J) p:=by
 obtain⟨i1,i2,i3,i4,i5⟩:=dZ D.li P.h1;have iw:=tN D.hl D.li co P.h0 P.p0.or;have gK:Sm s (aE l i j.on):=by rw[<- hj];exact y7 D.hl D.li co i2 i4
 have oy:Sm s (aE l i j.to):=by rw[<- hj];exact y7 D.hl D.li co i2 (i5 P.hk)
 have hv:Sm (2*s+1) (cP l i j):=(oy.sub gK).mono oz;have qn:Cb b [jY l i j]:=(Cb.one (hv.dot hv)).mono oz;have qh:Cb b [cB l i j0 j]:=(Cb.one (hv.cross (gK.sub iw))).mono oz;obtain⟨o1,o2⟩:=zG D.hl D.li co D.al D.hc tw Z.hK P.h0 P.p0;obtain⟨p1,p2⟩:=xC D.hl D.li co D.al D.hc tw Z.hK i1 i3 dX;have w1:Bz (2*(3*E+2*s+2*K+10)+1) (cE l a i j0 j).1:=Bz.mono (p1.sub o1) oz;have w2:Bz (2*(3*E+2*s+2*K+10)+1) (cE l a i j0 j).2:=Bz.mono (p2.sub o2) oz;have hd:Bz (8*(3*E+2*s+2*K+10)+2*K+8) (cH l a i j0 j):=Bz.mono (Gp Z tw (p:=aH l a j0 i) (q:=bh l a j.a j.point) o1 o2 p1 p2) oz;have hX:Bz X (bD l a i j0 j):=Bz.mono ((hd.qm qn).sub ((Bz.q tw.five qh).qm qh)) (by have:=Z.hX;omega);have h0:=tu D.li P.h1 P.hk hj;unfold kc
 by_cases h1:ao (cH l a i j0 j)=0/\ao (qE (cB l i j0 j):Et (llq a.rs))=0
 ·rw[aoz h1];intro sv h;cases h
 ·rw[aoy h1]
  by_cases h2:ao (bD l a i j0 j)<0
  ·rw[aoz h2];intro sv h;cases h
  ·rw[aoy h2];have fh:ao (cH l a i j0 j)≠0:=vi tw h2 h1
   have key:∀us,Xz (llq a.rs) r X us->Bz J (iE (dE us (sX (cH l a i j0 j))))->∀q,Bz 1 (dE us q)->Pq.ok us.length (oZ s (3*E+2*s+2*K+10) b K K' I J) (sP us (er l a i j0 j) q):=by
    intro us hx hi q hq;have h5:=hx.tw.five
    have hh:Bz b (dE us (sh 0 (cB l i j0 j:Rat))):=by
     have e:dE us (sh 0 (cB l i j0 j:Rat))=qE (cB l i j0 j):=kM _ _;rw[e];exact Bz.q h5 qh
    exact ahf Z tw hx (R:=er l a i j0 j) hv iw h0 hq (w1.upX hx.up h5) (w2.upX hx.up h5) hh hi (o1.upX hx.up h5) (o2.upX hx.up h5)
   by_cases h3:0<ao (bD l a i j0 j)
   ·rw[aoz h3];have hx:=CD tw hn Z.hL hX oz;have hi:=Hu Z tw hX (by omega:0<=ao (bD l a i j0 j)) hd fh;have rt:=Gf Z tw (x:=bD l a i j0 j);have k:=key _ hx hi;intro sv h;unfold mP at h;obtain⟨n,s8,rfl⟩:=al0.1 h;refine ⟨hx,fun p hp=>?_⟩;unfold lM at hp;rw[alr.1 hp]
    match n,alh.1 s8 with
    |0,_=>exact k _ rt
    |1,_ =>
     refine k _ ?_;show Bz 1 (dE _ (sX (-bM (bD l a i j0 j))));have e:dE (aX (llq a.rs) (sX (bD l a i j0 j))) (sX (-bM (bD l a i j0 j)))=-bM (bD l a i j0 j):=bn _ _;rw[e];exact rt.neg
   ·rw[aoy h3];have hx:=EM (X:=X) tw Z.hL;have e:dE (llq a.rs) (sX (cH l a i j0 j))=cH l a i j0 j:=bn _ _
    have hi:Bz J (iE (dE (llq a.rs) (sX (cH l a i j0 j)))):=by
     rw[e];exact(Gg Z tw hd fh).mono Z.ij
    have k:=key _ hx hi;intro sv h;unfold mP at h;obtain⟨n,s8,rfl⟩:=al0.1 h;refine⟨hx,fun p hp=>?_⟩;unfold lM at hp;rw[alr.1 hp]
    match n,alh.1 s8 with
    |0,_=>exact k _ (wi ⟨tw.five,.inl rfl,⟨1,0,⟨by decide,fun q h=>by cases h⟩,by decide,by decide⟩⟩)
end
theorem Mz{k:List Bool}{i:Nat}{b:Int}(h:kn (k.set i true) b=true):kn k b=true\/i=b.toNat:=by
 unfold kn at h ⊢
 by_cases e:i=b.toNat
 ·exact .inr e
 ·rw[anm,List.getElem?_set_ne e,<- anm]at h;exact .inl h
theorem MA:∀(bs:List Int){k:List Bool}{b:Int},kn (bR k bs) b=true->kn k b=true\/∃x∈bs,x.toNat=b.toNat
 |[],k,b,h=>.inl h
 |x::bs,k,b,h=>by
  have h:kn (bR (k.set x.toNat true) bs) b=true:=h;rcases MA bs h with h |⟨y,hy,e⟩
  ·rcases Mz h with h |h
   ·exact .inl h
   ·exact .inr ⟨x,aok,h⟩
  ·exact .inr ⟨y,aom _ hy,e⟩
def yO(l:Li)(kw:List Bool)(out:List Gr):Prop:=∀d∈l.dv,kn kw d.body=true->∃g∈out,g.kind=0/\g.bo=[d.body]
theorem aej{l:Li}{d:Dr}(hd:d∈l.dv){b:Int}(h:d.body=b):qV l b=true:=by
 unfold qV;rw[ald];exact⟨d,hd,by simp[h]⟩
theorem Pj{l:Li}{kw:List Bool}{g:Gr}(h:pairG l kw=some g):∀x∈g.bo,freeB l kw x=true:=by
 unfold pairG at h;rw[ann]at h;obtain⟨i,hi,h⟩:=h;obtain⟨h1,h2⟩:=ii hi;split at h
 ·rename_i k hk;subst h;unfold prAt at hk;rw[ann] at hk;obtain⟨k',hk',rfl⟩:=hk;obtain⟨h3,h4⟩:=ii hk';rw[show i+1+k'=k'+(i+1) by omega] at h4;unfold prHit at h4;simp only [amv,anq,ao0] at h4;obtain⟨⟨f1,f2⟩,_⟩:=h4;intro x hx;simp only [prG,an9,aob,or_false] at hx;rcases hx with rfl | rfl
  ·exact f1
  ·exact f2
 ·rename_i hk;rw[hk]at h2;cases h2
theorem J8{l:Li}{kw:List Bool}{g:Gr}(h:singleG l kw=some g):∀x∈g.bo,freeB l kw x=true:=by
 unfold singleG at h;rw[ann]at h;obtain⟨i,hi,rfl⟩:=h;obtain⟨h1,h2⟩:=ii hi;unfold sgHit at h2;simp only[amv,anq,ao0]at h2;intro x hx;simp only[sgG,an9,aob,or_false]at hx;subst hx;exact h2.1
theorem Yc{l:Li}(hl:aM l=0){kw:List Bool}{out:List Gr}{g:Gr}(h:yO l kw out)(hg:nextG l kw=some g):yO l (bR kw g.bo) (out++[g]):=by
 intro d hd hk;have ho:=CQ hl hg;rcases MA g.bo hk with h1 |⟨x,hx,e⟩
 ·obtain⟨g',h2,h3⟩:=h d hd h1;exact⟨g',List.mem_append_left _ h2,h3⟩
 ·obtain⟨i,hi⟩:=alt hd;have hb:=cS (lZ hl hi);have iH:=(ho.b x hx).1;have ex:d.body=x:=by omega
  unfold nextG at hg;cases h1:driverG l kw with
  |some g' =>
   rw[h1]at hg;cases hg
   refine⟨g,List.mem_append_right _ (alr.2 rfl),?_⟩;unfold driverG at h1;rw[ann]at h1;obtain⟨i,_,rfl⟩:=h1;refine⟨rfl,?_⟩;rw[alr.1 hx]at ex;rw[ex]
  |none =>
   rw[h1]at hg
   have hf:freeB l kw x=true:=by
    cases h2:pairG l kw with
    |some g'=>rw[h2]at hg;cases hg;exact Pj h2 x hx
    |none=>rw[h2]at hg;exact J8 hg x hx
   unfold freeB at hf;rw[aej hd ex]at hf;simp at hf
theorem Mq{l:Li}(hl:aM l=0):∀(n:Nat)(kw:List Bool)(out:List Gr),yO l kw out->yO l (findFrom l n kw out).1 (findFrom l n kw out).2
 |0,kw,out,h=>h
 |n+1,kw,out,h=>by
  unfold findFrom;cases hg:nextG l kw with
  |none=>exact h
  |some g=>exact Mq hl n _ _ (Yc hl h hg)
theorem MN{l:Li}(hl:aM l=0){i:Nat}{d:Dr}(hd:l.dv[i]?=some d):d.body≠0/\∀j d',j<i->l.dv[j]?=some d'->d'.body≠d.body:=by
 have h1:=(dC hl).2.2.1;unfold jM at h1;split at h1
 ·cases h1
 ·have h2:=xM h1 i (alj.1 hd).1;unfold fN at h2;rw[aw hd]at h2;split at h2
  ·cases h2
  ·split at h2
   ·cases h2
   ·split at h2
    ·cases h2
    ·split at h2
     ·cases h2
     ·rename_i h4;split at h2
      ·cases h2
      ·rename_i h5;refine⟨h4,fun j d' hj hd' e=>h5 ?_⟩;rw[ald];exact⟨d',ank (by rw[aof,aoz hj];exact hd'),by simpa using e⟩
theorem L2{α:Type}{p:α->Bool}:∀{l:List α}{x y:α},x∈l->y∈l->x≠y->p x=true->p y=true->2<=l.countP p
 |z::l,x,y,hx,hy,hn,px,py=>by
  have pos:∀w,w∈l->p w=true->0<l.countP p:=fun w hw pw=>List.countP_pos_iff.2 ⟨w,hw,pw⟩
  rcases an9.1 hx with e |hx
  ·rcases an9.1 hy with e2 |hy
   ·exact ao5 (e.trans e2.symm) hn
   ·have h9:=pos y hy py;rw[ak8 (e▸px)];omega
  ·rcases an9.1 hy with e |hy
   ·have h9:=pos x hx px;rw[ak8 (e▸py)];omega
   ·have:=L2 hx hy hn px py;rw[alp];omega
theorem vO{l:Li}(hl:aM l=0):l.dv.length<=2:=by
 have h1:=(dC hl).2.2.1;unfold jM at h1;split at h1
 ·cases h1
 ·omega
theorem ag8{l:Li}(hl:aM l=0)(hs:splitE l=0):∀d∈l.dv,∃g∈splitG l,g.kind=0/\g.bo=[d.body]:=by
 have h0:yO l (dh l.bo.length 0) []:=by
  intro d hd hk;obtain⟨i,hi⟩:=alt hd;have hb:=cS (lZ hl hi);rw[uB oz oz oz]at hk;exact ao5 (ao1 hk) (MN hl hi).1
 have h1:=Mq hl l.bo.length _ _ h0;rw[Lc]at h1;intro d hd;obtain⟨i,hi⟩:=alt hd;have hb:=cS (lZ hl hi)
 have hz:(gz (cq l)).length=0:=by
  unfold splitE at hs;split at hs
  ·omega
  ·cases hs
 rw[AH]at hz
 have bK:(cq l).length=l.bo.length:=by
  have:∀(gs:List Gr)(k:List Bool),(gs.foldl (fun k g=>bR k g.bo) k).length=k.length:=by
   intro gs
   induction gs with
   |nil=>intro k;rfl
   |cons g gs ih=>intro k;rw[foldl_cons,ih,mV]
  unfold cq;rw[this,kC]
 have hk:kn (cq l) d.body=true:=by
  unfold kn;rw[anm,ano (by omega:d.body.toNat<(cq l).length)];show(cq l)[d.body.toNat]=true;cases hv:(cq l)[d.body.toNat]'oz with
  |true=>rfl
  |false =>
   exfalso;have hm:false∈cq l:=hv▸ali _;rw[<- alf]at hm;rw[hm]at hz;cases hz
 obtain⟨g,hg,h2⟩:=h1 d hd hk;refine⟨g,?_,h2⟩;unfold splitG;rw[aoz hs];exact hg
theorem OH{l:Li}(hl:aM l=0)(hs:splitE l=0):l.dv.length<=(splitG l).countP (fun g=>decide (g.kind=0)):=by
 have h2:=vO hl;have hg:=ag8 hl hs
 match hd:l.dv with
 |[]=>simp
 |[d] =>
  obtain⟨g,h3,h4,_⟩:=hg d (by rw[hd];simp);exact List.countP_pos_iff.2 ⟨g,h3,by simpa using h4⟩
 |[d,d'] =>
  obtain⟨g,h3,h4,h5⟩:=hg d (by rw[hd];simp);obtain⟨g',h3',h4',h5'⟩:=hg d' (by rw[hd];simp);refine L2 h3 h3' ?_ (by simpa using h4) (by simpa using h4');intro e;rw[e,h5']at h5;exact(MN hl (i:=1) (d:=d') (by rw[hd];rfl)).2 0 d oz (by rw[hd];rfl) (by simpa using h5.symm)
 |_::_::_::_=>rw[hd]at h2;simp only[an0]at h2;omega
structure Aq where
  ts:LL
  bs:List Pq
  ms:List Int
instance:Inhabited Pq:=⟨⟨[],[],[],[]⟩⟩
instance:Inhabited Aq:=⟨⟨[],[],[]⟩⟩
def Pq.pl(p:Pq):Pl:=⟨p.c.map rt,p.s.map rt,p.x.map rt,p.y.map rt⟩
def Aq.as(a:Aq):As:=⟨a.ts.map (List.map rt),a.bs.map Pq.pl,a.ms⟩
theorem Pq.pl_av(p:Pq):p.pl.av=p.av:=by unfold Pl.av Pq.av Pq.pl;rw[eL,eL,eL,eL]
abbrev Aq.cs(a:Aq):List AV:=[.lst 1 (a.ts.map nA),.lst 4 (a.bs.map Pq.av),.lst 1 (a.ms.map i64)]
abbrev Aq.av(a:Aq):AV:=.agg a.cs
theorem Aq.as_av(a:Aq):a.as.av=a.av:=by
 unfold As.av Aq.as Aq.av Aq.cs;rw[map_map,map_map];congr 3
 ·exact ak1 (fun x _=>eL x)
 ·congr 1;exact ak1 (fun x _=>Pq.pl_av x)
theorem Aq.llq(a:Aq):Lw.llq a.as.rs=a.ts:=rG _
def bi(bs:List Pq)(is:List Int)(ps:List Pq):List Pq:=(is.zip ps).foldl (fun k x=>k.set x.1.toNat x.2) bs
def Aq.nxt(a:Aq)(g:Gr)(s:Sv):Aq:=⟨s.ts,bi a.bs g.bo s.ps,a.ms++[s.mode]⟩
def aN:Pq:=⟨[],[],[],[]⟩
def oC:Pq:=⟨[1],[],[],[]⟩
def fY(l:Li):Aq:=⟨[],(als l.bo.length aN).set 0 oC,[]⟩
def iP:Tn:=⟨⟨false,[],[]⟩,false⟩
def cD(g:Gr)(xs:List Tn):Tn:=if g.kind=0 then xs.getD g.driver.toNat iP else iP
theorem Jp:∀(zs:List (Int×Pq))(bs:List Pq),(zs.foldl (fun k x=>k.set x.1.toNat x.2) bs).length=bs.length
 |[],bs=>rfl
 |z::zs,bs=>by rw[foldl_cons,Jp zs,aox]
theorem NO:∀(zs:List (Int×Pq))(bs:List Pq)(p:Pq),p∈zs.foldl (fun k x=>k.set x.1.toNat x.2) bs->p∈bs\/∃z∈zs,z.2=p
 |[],bs,p,h=>.inl h
 |z::zs,bs,p,h=>by
  rw[foldl_cons]at h;rcases NO zs _ p h with h |⟨z',hz,e⟩
  ·rcases ala h with h |h
   ·exact .inl h
   ·exact .inr ⟨z,aok,h.symm⟩
  ·exact .inr ⟨z',aom _ hz,e⟩
theorem BC(bs:List Pq)(is:List Int)(ps:List Pq):(bi bs is ps).length=bs.length:=Jp _ _
theorem Qw{bs:List Pq}{is:List Int}{ps:List Pq}{p:Pq}(h:p∈bi bs is ps):p∈bs\/p∈ps:=by
 rcases NO _ _ _ h with h |⟨z,hz,e⟩
 ·exact .inl h
 ·exact .inr (e▸(List.of_mem_zip hz).2)
theorem ae3{bs:List Pq}{is:List Int}{ps:List Pq}{i:Nat}{b:Int}{p:Pq}(hb:is[i]?=some b)(hp:ps[i]?=some p) :
  bi bs (is.take (i+1)) (ps.take (i+1))=(bi bs (is.take i) (ps.take i)).set b.toNat p:=by
 have h1:is.take (i+1)=is.take i++[b]:=by rw[List.take_add_one,hb];rfl
 have h2:ps.take (i+1)=ps.take i++[p]:=by rw[List.take_add_one,hp];rfl
 have s6:=(alj.1 hb).1;have uL:=(alj.1 hp).1;unfold bi;rw[h1,h2,List.zip_append (by rw[an6,an6];omega),List.foldl_append];rfl
def qf(s j r E:Nat):Nat:=3*E+2*s+2*eB r j+10
def oK(s j r E:Nat):Nat:=24*qf s j r E+8*eB r j+5*(8*s+5)+23
def MQ(s j r E:Nat):Nat:=iB r j (8*qf s j r E+2*eB r j+8)
def BY(s j r E:Nat):Nat:=iB (r+oK s j r E) j (8*qf s j r E+2*eB r j+8)
def yJ(s j r E:Nat):Nat:=oZ s (qf s j r E) (8*s+5) (eB r j) (eB (r+oK s j r E) (j+1)) (MQ s j r E) (BY s j r E)
def sD(s g j r E:Nat):Nat:=qf s j r E+2*g+2*s+4
def eZ(g:Nat):Nat:=if g<=134 then 3200000000 else 10200000000
def rZ(g:Nat):Nat:=if g<=134 then 60000000 else 170000000
def fL(s g:Nat):Nat->Nat->Nat->Nat->Nat->Bool
  |0,_,j,r,E=>decide (E<=eZ g/\r<=rZ g/\j<=2)
  |n+1,y,j,r,E=>decide (E<=eZ g/\r<=rZ g/\j<=2)&&(fL s g n y j r (sD s g j r E) &&
      (decide (y=0)||(decide (j<=1/\E<=3900000/\r<=132000/\r+oK s j r E<=5000000000/\BY s j r E<=50000000000)&&fL s g n (y-1) (j+1) (r+oK s j r E) (yJ s j r E))))
theorem ag5:fL 32 200 3 1 0 0 2=true:=by decide +kernel
theorem ag6:fL 9 200 4 2 0 0 2=true:=by decide +kernel
theorem PW:fL 32 134 3 1 0 0 2=true:=by decide +kernel
theorem XM:fL 9 42 4 2 0 0 2=true:=by decide +kernel
theorem GI{s g n y j r E:Nat}(h:fL s g n y j r E=true):E<=eZ g/\r<=rZ g/\j<=2:=by
 cases n with
 |zero=>exact ao1 h
 |succ n =>
  unfold fL at h;simp only[anq,ao0]at h;exact⟨h.1.1,h.1.2.1,h.1.2.2⟩
theorem E8{s g n y j r E:Nat}(h:fL s g n y j r E=true):E<=10200000000/\r<=400000000/\j<=2:=by
 have h:=GI h;unfold eZ rZ at h;split at h <;> omega
theorem VH{s g n y j r E:Nat}(h:fL s g n y j r E=true):E<=50000000000/\r<=400000000/\j<=2:=by
 have:=E8 h;omega
theorem ym{s g n y j r E:Nat}(h:fL s g (n+1) y j r E=true):(E<=20000000000/\r<=400000000/\j<=2)/\fL s g n y j r (sD s g j r E)=true:=by
 have h3:=E8 h;unfold fL at h;simp only[anq,ao0]at h;exact⟨by omega,h.2.1⟩
theorem y8{s g n y j r E:Nat}(h:fL s g (n+1) (y+1) j r E=true):(j<=1/\E<=3900000/\r<=132000/\r+oK s j r E<=5000000000/\BY s j r E<=50000000000)/\fL s g n y (j+1) (r+oK s j r E) (yJ s j r E)=true:=by
 unfold fL at h;simp only[anq,aos,ao0,ajv]at h;rcases h.2.2 with h1 |h1
 ·omega
 ·exact h1
structure QInv(l:Li)(j r E:Nat)(a:Aq):Prop where
  tw:Tw a.ts r
  lv:a.ts.length<=j
  bs:∀p∈a.bs,Pq.ok a.ts.length E p
  ln:a.bs.length=l.bo.length
theorem Pq.ok.up{n n' e e':Nat}{p:Pq}(h:Pq.ok n e p)(hn:n<=n')(h5:n'<=5)(he:e<=e'):Pq.ok n' e' p :=
 ⟨⟨h5,h.c.nl.mono hn,h.c.cb.mono he⟩,⟨h5,h.s.nl.mono hn,h.s.cb.mono he⟩,⟨h5,h.x.nl.mono hn,h.x.cb.mono he⟩,⟨h5,h.y.nl.mono hn,h.y.cb.mono he⟩⟩
theorem Pq.ok.lv{n m e:Nat}{p:Pq}(h:Pq.ok n e p)(hn:n=m):Pq.ok m e p:=hn▸h
theorem Ax{r r':Nat}(h:r<=r'):∀j,eB r j<=eB r' j
 |0=>anp _
 |j+1=>by have:=Ax h j;simp only[eB];omega
theorem Jj{r r':Nat}(h:r<=r'):∀j e,iB r j e<=iB r' j e
 |0,e=>anp _
 |j+1,e=>by
  have h1:=Ax h j;have h2:=Ax h (j+1);have h3:=Jj h j (4*e+3*eB r j+r+1);have h4:=CF r' j (e:=4*e+3*eB r j+r+1) (f:=4*e+3*eB r' j+r'+1) oz;simp only[iB];omega
theorem Cu:Pq.ok 0 2 aN:=by
 have h:Nm 0 2 []:=⟨by omega,.inl rfl,⟨1,0,⟨by decide,fun q h=>by cases h⟩,by decide,by decide⟩⟩
 exact⟨h,h,h,h⟩
theorem adm:Pq.ok 0 2 oC:=by
 have h:Nm 0 2 [1]:=⟨by omega,.inr ⟨0,anp _,rfl⟩,Cb.mono (Cb.int (z:=1) (e:=1) (by decide)) oz⟩
 exact⟨h,Cu.c,Cu.c,Cu.c⟩
theorem rS:Tw [] 0:=⟨by decide,(fun j h=>by cases h),(fun j h=>by cases h),⟨1,1,by decide,(fun d h=>by cases h),by decide,by decide⟩,by omega⟩
theorem FW(l:Li):QInv l 0 0 2 (fY l):=by
 refine⟨rS,anp _,fun p hp=>?_,by simp[fY]⟩;rcases ala hp with h |h
 ·rw[(ak4.1 h).2];exact Cu
 ·rw[h];exact adm
theorem Pq.ok.nr{n e:Nat}{p:Pq}(h:Pq.ok n e p)(he:e<=lm n):∀x∈p.pl.l,NR x e:=by
 intro x hx;simp only[Pl.l,Pq.pl,an9,aob,or_false]at hx;rcases hx with rfl |rfl |rfl |rfl
 ·exact h.c.rt he
 ·exact h.s.rt he
 ·exact h.x.rt he
 ·exact h.y.rt he
theorem Pq.ok.num{n e:Nat}{p:Pq}(h:Pq.ok n e p):∀x∈p.pl.l,cA n x=0:=by
 intro x hx;simp only[Pl.l,Pq.pl,an9,aob,or_false]at hx;rcases hx with rfl |rfl |rfl |rfl
 ·exact ue h.c.nl
 ·exact ue h.s.nl
 ·exact ue h.x.nl
 ·exact ue h.y.nl
section
variable{l:Li}{j r E:Nat}{a:Aq}(Q:QInv l j r E a)
include Q
theorem QInv.chk:bB a.as.rs=0:=Q.tw.chk
theorem QInv.mem{p:Pl}(h:p∈a.as.bs):∃q∈a.bs,q.pl=p:=by have _:=Q;exact al0.1 h
theorem QInv.nr(hE:E<=50000000000){p:Pl}(h:p∈a.as.bs):∀x∈p.l,NR x E:=by
 obtain⟨q,hq,rfl⟩:=Q.mem h;exact(Q.bs q hq).nr (an4 hE (oT _))
theorem QInv.ab(hl:aM l=0)(hE:E<=50000000000)(hr:r<=400000000):AB a.as:=by
 refine⟨Q.tw.tr.mono hr oz,fun p hp x hx=>(Q.nr hE hp x hx).mono hE,?_,?_⟩
 ·show(a.ts.map _).length<=8;rw[anl];have:=Q.tw.three;omega
 ·show(a.bs.map _).length<=30;rw[anl,Q.ln];have:=(dC hl).2.2.2.1;omega
theorem QInv.sma(hE:E<=50000000000){F:Nat}(hF:E<=F)(k:Int)(own:Bool):xO F l k a.as own :=
 fun b _ _ p hp x hx=>(Q.nr hE (ank hp) x hx).mono hF
theorem QInv.nd(hl:aM l=0){g:Gr}(hg:GrOk l g){own:Bool}:∀b∈dK l g own,jP a.as b=0:=by
 intro b hb;unfold jP;split
 ·rfl
 ·have h1:=FO hl hg b hb;obtain⟨p,hp⟩:=aB (l:=a.bs) (i:=b.toNat) (by rw[Q.ln]; omega);have e:a.as.bs[b.toNat]?=some p.pl:=by show (a.bs.map Pq.pl)[b.toNat]?=_; rw[anr,hp]; rfl
  rw[aw e];unfold bc;rw[aoy (by rw[Q.chk];simp)];have e2:a.as.rs.length=a.ts.length:=anl _;rw[e2];exact tQ (fun x hx=>(Q.bs p (ank hp)).num x hx)
theorem QInv.dy0(hl:aM l=0)(hs:splitE l=0){k:Nat}{g:Gr}(hg:(splitG l)[k]?=some g)(own:Bool):iZ l k a.as own=0:=by
 have hk:=(alj.1 hg).1;obtain⟨_,ho⟩:=xq hl (ank hg);have ox:mY l (k:Nat)=g:=aw hg;rw[wg hl,Qj hs oz (by show(a.bs.map _).length=_;rw[anl,Q.ln]) Q.chk,ox];exact tQ (fun b hb=>Q.nd hl ho b (EE.1 hb))
end
structure WkC(l:Li)(xs:List Tn)(s g:Nat):Prop where
  hl:l.ok
  li:aM l=0
  sp:splitE l=0
  cs:Cs s l
  ln:xs.length=l.dv.length
  ok:∀x∈xs,x.t.ok/\x.err=0/\Qb 1000 x.t.q/\Cb g [d8 x.half x.t.q]/\Cb g [d6 x.half x.t.q]
theorem K7{l:Li}{g:Gr}(h:DyK l g)(hk:g.kind=0):0<=g.driver/\g.driver<l.dv.length:=by
 cases h with
 | @drv b z d _ _ t d0 hd hb=>have:=(alj.1 hd).1;exact⟨d0,by show d<_;omega⟩
 |rrr=>exact ao5 hk (by simp)
 |pr=>exact ao5 hk (by simp)
 |rp=>exact ao5 hk (by simp)
theorem Gk:iP.t.ok:=⟨(fun x h=>by cases h),(fun x h=>by cases h),ans _,ans _⟩
theorem LD:Qb 1000 iP.t.q:=by
 have e:iP.t.q=0:=by decide +kernel
 rw[e];exact Qb.zero.mono oz
section
variable{l:Li}{xs:List Tn}{s g:Nat}(W:WkC l xs s g){k:Nat}{gr:Gr}(hg:(splitG l)[k]?=some gr)
include W hg
theorem WkC.grp:DyK l gr/\GrOk l gr:=xq W.li (ank hg)
theorem WkC.tn:(cD gr xs).t.ok/\Qb 1000 (cD gr xs).t.q/\(gr.kind=0->∃x∈xs,cD gr xs=x):=by
 unfold cD
 by_cases hk:gr.kind=0
 ·rw[aoz hk];have h:=K7 (W.grp hg).1 hk;obtain⟨x,hx⟩:=aB (l:=xs) (i:=gr.driver.toNat) (by rw[W.ln];omega);rw[aw hx];have hm:=ank hx;exact⟨(W.ok x hm).1,(W.ok x hm).2.2.1,fun _=>⟨x,hm,rfl⟩⟩
 ·rw[aoy hk];exact⟨Gk,LD,fun h=>ao5 h hk⟩
variable{j r E:Nat}{a:Aq}(Q:QInv l j r E a)
include Q
theorem QInv.dyOk{F:Nat}(hE:E<=50000000000)(hF:E<=F):DyOk F l k a.as false k gr:=by
 obtain⟨i,g',h⟩:=Qr (Q.sma hE hF k false) (Q.dy0 W.li W.sp hg false);have e:i=k:=by have:=h.hk;omega
 subst e;have:=h.hg;rw[hg]at this;cases this;exact h
theorem QInv.dyS(hr:r<=132000)(hj:j<=1):DyS a.as:=by have _:=W;have _:=hg;exact⟨Q.tw.tr.mono hr oz,fun _=>by rw[a.llq];exact an4 Q.lv hj⟩
theorem QInv.dyW(hE:E<=50000000000)(hr:r<=400000000):DyW l a.as:=by have _:=hg;exact⟨W.hl,W.li,Q.ab W.li hE hr,Q.chk⟩
theorem QInv.twl:Tw (Lw.llq a.as.rs) r:=by have _:=W;have _:=hg;rw[a.llq];exact Q.tw
theorem QInv.drv{n y:Nat}(ok:fL s g (n+1) y j r E=true)(hk:gr.kind=0):∀sv∈fE l a.as gr (cD gr xs),QInv l j r (sD s g j r E) (a.nxt gr sv):=by
 obtain⟨⟨hE,hr,hj⟩,_⟩:=ym ok;have D:=QInv.dyW W hg Q oz hr;have O:=QInv.dyOk W hg Q (F:=E) oz (anp _);obtain⟨i,z0,d,j0,e,jd,p0⟩:=Ha O hk;obtain⟨_,_,hx⟩:=W.tn hg;obtain⟨x,hx,ex⟩:=hx hk;obtain⟨_,he,_,hc,hs⟩:=W.ok x hx;have bK:(Lw.llq a.as.rs).length=a.ts.length:=by rw[a.llq]
 have tw:=QInv.twl W hg Q;have gp:=tN W.hl W.li W.cs jd p0.or;have hK:eB r (Lw.llq a.as.rs).length<=eB r j:=kl r (by rw[bK];exact Q.lv);obtain⟨o1,o2⟩:=zG W.hl W.li W.cs D.al D.hc tw hK jd p0;rw[ex];unfold fE;rw[aoz hk,e];show ∀sv∈lW l a.as i (l.jo.getD z0.toNat default) x,_;rw[aw jd];unfold lW;rw[aoy oz];have hp:=XL (ts:=Lw.llq a.as.rs) (p:=ak l j0 i) (o:=aH l a.as j0 i) hc hs gp tw.five o1 o2
 have j8:Pq.ok a.ts.length (sD s g j r E) (oF l a.as i j0 x):=by
  have:=FG (a:=0) (b:=0) hp (e:=sD s g j r E) (by unfold sD qf;omega) (by unfold sD qf;omega);exact Pq.ok.lv this bK
 refine kW ⟨?_,?_,?_,?_⟩
 ·exact tw
 ·show(Lw.llq a.as.rs).length<=j;rw[bK];exact Q.lv
 ·intro p Is;show Pq.ok (Lw.llq a.as.rs).length _ p;rw[bK];rcases Qw Is with h |h
  ·exact(Q.bs p h).up (anp _) Q.tw.five (by unfold sD qf;omega)
  ·rw[alr.1 h];exact j8
 ·exact(BC _ _ _).trans Q.ln
theorem QInv.dy{n y:Nat}(ok:fL s g (n+1) (y+1) j r E=true)(hk:gr.kind≠0):∀sv∈fE l a.as gr (cD gr xs),QInv l (j+1) (r+oK s j r E) (yJ s j r E) (a.nxt gr sv):=by
 obtain⟨⟨hj,hE,hr,hX,hJ⟩,_⟩:=y8 ok;have D:DyR l a.as:=⟨QInv.dyW W hg Q oz oz,QInv.dyS W hg Q hr hj⟩
 have O:=QInv.dyOk W hg Q (F:=E) oz (anp _);have bK:(Lw.llq a.as.rs).length=a.ts.length:=by rw[a.llq]
 have It:(Lw.llq a.as.rs).length<=j:=by rw[bK];exact Q.lv
 have tw:=QInv.twl W hg Q
 have Z:Szs (Lw.llq a.as.rs).length r (3*E+2*s+2*eB r j+10) (8*s+5) (oK s j r E) (eB r j) (eB (r+oK s j r E) (j+1)) (MQ s j r E) (BY s j r E):=by
  refine⟨by omega,kl r It,?_,hX,kl _ oz,?_,?_,hJ,?_,?_⟩
  ·unfold oK qf;omega
  ·exact Hr r _ It
  ·exact Hr _ _ It
  ·exact an4 (kl r oz) (Ax oz _)
  ·exact Jj oz _ _
 have hn:(Lw.llq a.as.rs).length<=1:=by omega
 have key:∀sv∈fE l a.as gr (cD gr xs),Xz (Lw.llq a.as.rs) r (oK s j r E) sv.ts/\∀p∈sv.ps,Pq.ok sv.ts.length (yJ s j r E) p:=by
  unfold fE;rw[aoy hk]
  by_cases iy:gr.kind=1
  ·obtain⟨i,k2,z0,z1,z2,j0,j1,j2,P⟩:=O.rrr iy;obtain⟨e0,e1,e2,b0,b1,_⟩:=P.at;rw[aoz iy,e0,e1,e2,b0,b1];exact agj D hn W.cs tw Z (anp _) P
  ·rw[aoy iy]
   by_cases dF:gr.kind=2
   ·obtain⟨i,z0,z1,j0,j,P,ha,hb⟩:=O.pr dF;obtain⟨e0,e1,b0,_⟩:=P.at;rw[aoz dF,e0,e1,b0];exact aek D hn W.cs tw Z (anp _) P ha hb
   ·obtain⟨i,z0,z1,j0,j,P,_,hj,hb⟩:=O.rp hk iy dF;obtain⟨e0,e1,b0,qD⟩:=P.at;rw[aoy dF,e0,e1,b0];exact ac8 D hn W.cs tw Z (anp _) P hj hb
 intro sv kJ;obtain⟨hx,hp⟩:=key sv kJ;have h5:=hx.tw.five;have Dk:=hx.up;have eg:=hx.ln;rw[bK]at Dk eg;refine⟨hx.tw,?_,?_,?_⟩
 ·show sv.ts.length<=j+1;have:=Q.lv;omega
 ·intro p Is;rcases Qw Is with h |h
  ·exact(Q.bs p h).up Dk h5 (by unfold yJ oZ wZ qf;omega)
  ·exact hp p h
 ·exact(BC _ _ _).trans Q.ln
end
def kD(l:Li)(a:As)(g:Gr)(x:Tn):Nat:=(ns l a g x).2
def gq(F:Int->Bool)(sg:Bool)(f:Sv->List Aq×Nat):List Sv->List Aq×Nat
  |[]=>([],0)
  |s::r=>if F s.mode=false then gq F sg f r else if(f s).2≠0 then f s else if sg=true then f s else((f s).1++(gq F sg f r).1,(gq F sg f r).2)
def iL(F:Nat->Int->Bool)(sg:Bool)(l:Li)(xs:List Tn)(gs:List Gr):Nat->Aq->List Aq×Nat
  |0,a=>([a],0)
  |n+1,a=>if kD l a.as (gs.getD a.ms.length default) (cD (gs.getD a.ms.length default) xs)≠0 then([],kD l a.as (gs.getD a.ms.length default) (cD (gs.getD a.ms.length default) xs))
    else gq (F a.ms.length) sg (fun s=>iL F sg l xs gs n (a.nxt (gs.getD a.ms.length default) s)) (fE l a.as (gs.getD a.ms.length default) (cD (gs.getD a.ms.length default) xs))
theorem adp{l:Li}{xs:List Tn}{s g:Nat}(W:WkC l xs s g){k:Nat}{gr:Gr}(hg:(splitG l)[k]?=some gr){j r E:Nat}{a:Aq}(Q:QInv l j r E a){n y:Nat}(ok:fL s g (n+1) y j r E=true)(hy:gr.kind≠0->0<y) :
  SolP (fE l a.as gr (cD gr xs)) gr.kind a.ts.length gr.bo.length:=by
 obtain⟨⟨hE,hr,hj⟩,_⟩:=ym ok;have D:=QInv.dyW W hg Q oz hr;have h3:(Lw.llq a.as.rs).length<=2:=by rw[a.llq];have:=Q.lv;omega
 have bK:(Lw.llq a.as.rs).length=a.ts.length:=by rw[a.llq]
 rw[<- bK]
 by_cases hk:gr.kind=0
 ·exact N4 hE D h3 (QInv.dyOk W hg Q (F:=E) oz (anp _)) (fun h=>ao5 hk h) (W.tn hg).2.1
 ·have hy:=hy hk;obtain⟨y',rfl⟩:∃ y',y=y'+1:=⟨y - 1,by omega⟩
  obtain⟨⟨hj,hE,hr,hX,hJ⟩,_⟩:=y8 ok;exact N4 oz D h3 (QInv.dyOk W hg Q (F:=3900000) oz hE) (fun _=>⟨rfl,QInv.dyS W hg Q hr hj⟩) (W.tn hg).2.1
open Lean.Grind (CommRing)
theorem vd{ts:LL}(hp:dj ts){X:Et ts}(h:0<ao X):dj (aX ts (sX X)):=by
 intro j hj;rw[e8]at hj;rw[AP oz];rcases anu j ts.length with h9 |h9
 ·rw[A5 h9];exact hp j h9
 ·have:j=ts.length:=by omega
  subst this
  have e1:az (aX ts (sX X)) ts.length=X:=by
   show af ts.length ((aX ts (sX X)).getD ts.length [])=_;rw[zx,rO];exact bn _ _
  rw[e1];exact Int.le_of_lt h
def a8(T:LL)(p:Pq)(m:Rat×Rat):P2 T:=(dE T p.c*qE m.1-dE T p.s*qE m.2+dE T p.x,dE T p.s*qE m.1+dE T p.c*qE m.2+dE T p.y)
def CH(T:LL)(p:Pq):Prop:=ao (dE T p.c*dE T p.c+dE T p.s*dE T p.s-1)=0
def aq(l:Li)(T:LL)(bs:List Pq)(b pt:Int):P2 T:=a8 T (bs.getD b.toNat aN) (aE l b pt)
def JH(l:Li)(T:LL)(bs:List Pq)(j:Jt):Prop :=
  if j.kind=0 then ao ((aq l T bs j.a j.point).1-(aq l T bs j.b j.on).1)=0/\ao ((aq l T bs j.a j.point).2-(aq l T bs j.b j.on).2)=0
  else ao (k9 (aO (aq l T bs j.b j.to) (aq l T bs j.b j.on)) (aO (aq l T bs j.a j.point) (aq l T bs j.b j.on)))=0
theorem Hl{ts:LL}{q:Rat}(h:q≠0):(iE (qE q)*qE q:Et ts)=1:=by
 have e:(iE (qE q):Et ts)=qE (1/q):=CR (az ts) ts.length q;rw[e,<- jS,show 1/q*q=((1:Nat):Rat) by rw[show(((1:Nat):Rat))=1 from rfl];grind];rfl
section
variable{T:LL}{u p c:Rat×Rat}{w o:P2 T}
theorem AN:dE T (jK u w p o).c=eF u w:=bn _ _
theorem BK:dE T (jK u w p o).s=dY u w:=bn _ _
theorem ah3:dE T (jK u w p o).x=wC u w p o:=bn _ _
theorem ab6:dE T (jK u w p o).y=vP u w p o:=bn _ _
theorem sM(m:Rat×Rat):a8 T (jK u w p o) m=(o.1+(eF u w*qE (m.1-p.1)-dY u w*qE (m.2-p.2)),o.2+(dY u w*qE (m.1-p.1)+eF u w*qE (m.2-p.2))):=by
 unfold a8;rw[AN,BK,ah3,ab6,pJ,pJ];unfold wC vP;refine Prod.ext ?_ ?_
 ·dsimp only;grind
 ·dsimp only;grind
theorem yU:a8 T (jK u w p o) p=o:=by
 rw[sM,show p.1-p.1=0 by grind,show p.2-p.2=0 by grind,Ef];refine Prod.ext ?_ ?_
 ·dsimp only;grind
 ·dsimp only;grind
theorem G0(h:cf u u≠0):(eF u w*qE u.1-dY u w*qE u.2=w.1/\dY u w*qE u.1+eF u w*qE u.2=w.2):=by
 have hn:(ol u:Et T)=qE u.1*qE u.1+qE u.2*qE u.2:=by
  show qE (u.1*u.1+u.2*u.2)=_;rw[rc,jS,jS]
 exact(Oh hn (Hl h) rfl rfl).1
theorem zf(h:cf (bS c p) (bS c p)≠0):a8 T (jK (bS c p) w p o) c=(o.1+w.1,o.2+w.2):=by
 rw[sM];have g:=G0 (w:=w) h;have e1:(qE (c.1-p.1):Et T)=qE (bS c p).1:=rfl;have e2:(qE (c.2-p.2):Et T)=qE (bS c p).2:=rfl;rw[e1,e2,g.1,g.2]
theorem Bn(hp:dj T)(h:cf u u≠0)(hw:ao (w.1*w.1+w.2*w.2-qE (cf u u))=0):CH T (jK u w p o):=by
 unfold CH;rw[AN,BK]
 have hn:(ol u:Et T)=qE u.1*qE u.1+qE u.2*qE u.2:=by
  show qE (u.1*u.1+u.2*u.2)=_;rw[rc,jS,jS]
 have hi:(iE (ol u)*ol u:Et T)=1:=Hl h;have e:=ao6 (ae hp) hn;have ei:=ao6 (ae hp) hi;have ew:ae hp w.1*ae hp w.1+ae hp w.2*ae hp w.2=ae hp (ol u):=(ig hp (x:=w.1*w.1+w.2*w.2) (y:=ol u)).2 hw;have g:=(Oh (R:=Zq hp) (n:=ae hp (ol u)) (i:=ae hp (iE (ol u))) (u1:=ae hp (qE u.1)) (u2:=ae hp (qE u.2)) (c:=ae hp (eF u w)) (s:=ae hp (dY u w)) (w1:=ae hp w.1) (w2:=ae hp w.2) e ei rfl (by unfold dY;rw[bm,bE,bm,bm])).2 ew;refine(ig hp (x:=eF u w*eF u w+dY u w*dY u w) (y:=1)).1 ?_;exact g
end
def aG(a:As):List Pq:=a.bs.map fun b=>⟨lq b.c,lq b.s,lq b.x,lq b.y⟩
theorem oe(q:Aq):aG q.as=q.bs:=by
 unfold aG Aq.as;rw[map_map]
 conv=>rhs;rw[<- List.map_id q.bs]
 refine ak1 fun p _=>?_
 show(⟨lq (p.c.map rt),lq (p.s.map rt),lq (p.x.map rt),lq (p.y.map rt)⟩:Pq)=p;rw[dO,dO,dO,dO]
theorem f6(l:Li)(a:As)(b pt:Int):bh l a b pt=aq l (llq a.rs) (aG a) b pt:=by
 have e:(aG a).getD b.toNat aN=⟨lq (a.bs.getD b.toNat default).c,lq (a.bs.getD b.toNat default).s,lq (a.bs.getD b.toNat default).x,lq (a.bs.getD b.toNat default).y⟩:=by
  unfold aG;rw[anm,anm,anr];cases a.bs[b.toNat]? <;> rfl
 unfold aq;rw[e];rfl
def Nq(n:Nat)(p:Pq):Prop:=p.c.length<=2^n/\p.s.length<=2^n/\p.x.length<=2^n/\p.y.length<=2^n
section
variable{ts T:LL}(L:Lf ts T)
include L
theorem Lf.add(x y:Et ts):ae L.pos (ax T (x+y))=ae L.pos (ax T x)+ae L.pos (ax T y):=L.hm.add x y
theorem Lf.mul(x y:Et ts):ae L.pos (ax T (x*y))=ae L.pos (ax T x)*ae L.pos (ax T y):=L.hm.mul x y
theorem Lf.sub(x y:Et ts):ae L.pos (ax T (x-y))=ae L.pos (ax T x)-ae L.pos (ax T y):=L.hm.sub x y
theorem Lf.one:ae L.pos (ax T (1:Et ts))=1:=L.hm.one
theorem Lf.at{p:Pq}(hp:Nq ts.length p)(m:Rat×Rat):ae L.pos (a8 T p m).1=ae L.pos (ax T (a8 ts p m).1)/\ae L.pos (a8 T p m).2=ae L.pos (ax T (a8 ts p m).2):=by
 obtain⟨h1,h2,h3,h4⟩:=hp;unfold a8;dsimp only;constructor
 ·rw[L.add,L.sub,L.mul,L.mul,L.low _ h1,L.low _ h2,L.low _ h3,L.q,L.q,di,bE,bm,bm]
 ·rw[L.add,L.add,L.mul,L.mul,L.low _ h1,L.low _ h2,L.low _ h4,L.q,L.q,di,di,bm,bm]
theorem Lf.zero(x:Et ts):ao (ax T x)=0↔ao x=0:=(fV L.pos).symm.trans (L.hm.zero x)
theorem Lf.ch{p:Pq}(hp:Nq ts.length p)(h:CH ts p):CH T p:=by
 obtain⟨h1,h2,h3,h4⟩:=hp;have e:=(L.zero _).2 h;have e1:=(fV L.pos).2 e;refine(fV L.pos).1 ?_;rw[L.sub,L.add,L.mul,L.mul,L.low _ h1,L.low _ h2,L.one]at e1;rw[bE,di,bm,bm];exact e1
end
def fI(bs bs':List Pq)(n:Nat)(b:Int):Prop:=bs'.getD b.toNat aN=bs.getD b.toNat aN/\Nq n (bs.getD b.toNat aN)
section
variable{ts T:LL}(L:Lf ts T)
include L
theorem Lf.pt(l:Li){bs bs':List Pq}{b:Int}(h:fI bs bs' ts.length b)(pt:Int) :
  ae L.pos (aq l T bs' b pt).1=ae L.pos (ax T (aq l ts bs b pt).1)/\ae L.pos (aq l T bs' b pt).2=ae L.pos (ax T (aq l ts bs b pt).2):=by
 unfold aq;rw[h.1];exact L.at h.2 _
end
section
variable{T:LL}(hp:dj T)
include hp
theorem Ce{l:Li}{bs:List Pq}{j:Jt}(hk:j.kind=0)(h1:ae hp (aq l T bs j.a j.point).1=ae hp (aq l T bs j.b j.on).1)(h2:ae hp (aq l T bs j.a j.point).2=ae hp (aq l T bs j.b j.on).2):JH l T bs j:=by
 unfold JH;rw[aoz hk];exact⟨(ig hp).1 h1,(ig hp).1 h2⟩
theorem E9{l:Li}{bs:List Pq}{j:Jt}(hk:j.kind≠0)
  (h:(ae hp (aq l T bs j.b j.to).1-ae hp (aq l T bs j.b j.on).1)*(ae hp (aq l T bs j.a j.point).2-ae hp (aq l T bs j.b j.on).2)-(ae hp (aq l T bs j.b j.to).2-ae hp (aq l T bs j.b j.on).2)*(ae hp (aq l T bs j.a j.point).1-ae hp (aq l T bs j.b j.on).1)=0):JH l T bs j:=by
 unfold JH;rw[aoy hk];refine(fV hp).1 ?_;unfold k9 crsE aO;dsimp only;rw[bE,bm,bm,bE,bE,bE,bE];exact h
theorem IR{l:Li}{bs:List Pq}{j:Jt}(hk:j.kind=0)(h:JH l T bs j):ae hp (aq l T bs j.a j.point).1=ae hp (aq l T bs j.b j.on).1/\ae hp (aq l T bs j.a j.point).2=ae hp (aq l T bs j.b j.on).2:=by
 unfold JH at h;rw[aoz hk]at h;exact⟨(ig hp).2 h.1,(ig hp).2 h.2⟩
theorem P7{l:Li}{bs:List Pq}{j:Jt}(hk:j.kind≠0)(h:JH l T bs j) :
  (ae hp (aq l T bs j.b j.to).1-ae hp (aq l T bs j.b j.on).1)*(ae hp (aq l T bs j.a j.point).2-ae hp (aq l T bs j.b j.on).2)-(ae hp (aq l T bs j.b j.to).2-ae hp (aq l T bs j.b j.on).2)*(ae hp (aq l T bs j.a j.point).1-ae hp (aq l T bs j.b j.on).1)=0:=by
 unfold JH at h;rw[aoy hk]at h;have e:=(fV hp).2 h;unfold k9 crsE aO at e;dsimp only at e;rw[bE,bm,bm,bE,bE,bE,bE]at e;exact e
end
section
variable{ts T:LL}(L:Lf ts T)
include L
theorem Lf.jh{l:Li}{bs bs':List Pq}{j:Jt}(ha:fI bs bs' ts.length j.a)(hb:fI bs bs' ts.length j.b)(h:JH l ts bs j):JH l T bs' j:=by
 have a:=L.pt l ha;have b:=L.pt l hb
 by_cases hk:j.kind=0
 ·unfold JH at h;rw[aoz hk]at h;have e1:=(fV L.pos).2 ((L.zero _).2 h.1);have e2:=(fV L.pos).2 ((L.zero _).2 h.2);rw[L.sub]at e1 e2;refine Ce L.pos hk ?_ ?_
  ·rw[(a _).1,(b _).1];grind
  ·rw[(a _).2,(b _).2];grind
 ·unfold JH at h;rw[aoy hk]at h;have e1:=(fV L.pos).2 ((L.zero _).2 h);unfold k9 crsE aO at e1;dsimp only at e1;simp only[L.sub,L.mul]at e1;refine E9 L.pos hk ?_;rw[(a _).1,(a _).2,(b _).1,(b _).2,(b _).1,(b _).2];exact e1
end
section
variable{l:Li}{a:As}{T:LL}(L:Lf (llq a.rs) T)
include L
theorem Lf.pin{bs':List Pq}{j:Jt}{i:Int}(hk:j.kind=0)(tie:(j.a=i/\fI (aG a) bs' (llq a.rs).length j.b)\/(j.a≠i/\j.b=i/\fI (aG a) bs' (llq a.rs).length j.a))
  (h:a8 T (bs'.getD i.toNat aN) (ak l j i)=(ax T (aH l a j i).1,ax T (aH l a j i).2)):JH l T bs' j:=by
 have h1:=ao6 Prod.fst h;have h2:=ao6 Prod.snd h;dsimp only at h1 h2;rcases tie with⟨e,hs⟩ |⟨e,e2,hs⟩
 ·have b:=L.pt l hs j.on;unfold ak aH at h1 h2;simp only[aoz e]at h1 h2;rw[f6]at h1 h2;refine Ce L.pos hk ?_ ?_
  ·rw[b.1];unfold aq;rw[e];exact ao6 (ae L.pos) h1
  ·rw[b.2];unfold aq;rw[e];exact ao6 (ae L.pos) h2
 ·have b:=L.pt l hs j.point;unfold ak aH at h1 h2;simp only[aoy e]at h1 h2;rw[f6]at h1 h2;refine Ce L.pos hk ?_ ?_
  ·rw[b.1]
   conv=>rhs;unfold aq
   rw[e2];exact(ao6 (ae L.pos) h1).symm
  ·rw[b.2]
   conv=>rhs;unfold aq
   rw[e2];exact(ao6 (ae L.pos) h2).symm
end
theorem oh{bs:List Pq}{i k:Int}{p:Pq}(hi:0<=i)(hk:0<=k)(h:k≠i):(bs.set i.toNat p).getD k.toNat aN=bs.getD k.toNat aN:=by
 rw[anm,anm,List.getElem?_set_ne oz]
theorem qg{bs:List Pq}{i:Nat}{p:Pq}(h:i<bs.length):(bs.set i p).getD i aN=p:=by
 rw[anm,List.getElem?_set_self h];rfl
theorem Xr(n:Nat):Nq n aN:=⟨ans _,ans _,ans _,ans _⟩
theorem tY{bs:List Pq}{n:Nat}(h:∀p∈bs,Nq n p)(i:Nat):Nq n (bs.getD i aN):=by
 rw[anm];cases e:bs[i]? with
 |none=>exact Xr n
 |some p=>exact h p (ank e)
structure GrpH(l:Li)(a:As)(g:Gr)(s:Sv):Prop where
  lf:Lf (llq a.rs) s.ts
  js:∀z∈g.jo,JH l s.ts (bi (aG a) g.bo s.ps) (l.jo.getD z.toNat default)
  cs:∀b∈g.bo,CH s.ts ((bi (aG a) g.bo s.ps).getD b.toNat aN)
theorem aey{R:Type}[CommRing R]{C S a1 a2 b1 b2 x1 x2 P1 P2 o1 o2:R}(co:C*C+S*S=1)(g:x1*(P2-o2)-x2*(P1-o1)=(a1-b1)*b2-(a2-b2)*b1)
  (y1:C*(a1-b1)-S*(a2-b2)=x1) (y2:S*(a1-b1)+C*(a2-b2)=x2) :
  (o1+(C*a1-S*a2)-(o1+(C*b1-S*b2)))*(P2-(o2+(S*b1+C*b2)))-(o2+(S*a1+C*a2)-(o2+(S*b1+C*b2)))*(P1-(o1+(C*b1-S*b2)))=0:=by
 have e1:o1+(C*a1-S*a2)-(o1+(C*b1-S*b2))=x1:=by rw[<- y1];grind
 have e2:o2+(S*a1+C*a2)-(o2+(S*b1+C*b2))=x2:=by rw[<- y2];grind
 rw[e1,e2];have e3:x1*(P2-(o2+(S*b1+C*b2)))-x2*(P1-(o1+(C*b1-S*b2)))=(x1*(P2-o2)-x2*(P1-o1))-(x1*(S*b1+C*b2)-x2*(C*b1-S*b2)):=by clear co g y1 y2 e1 e2;grind
 have e4:x1*(S*b1+C*b2)-x2*(C*b1-S*b2)=((a1-b1)*b2-(a2-b2)*b1)*(C*C+S*S):=by rw[<- y1,<- y2];clear co g y1 y2 e1 e2 e3;grind
 rw[e3,e4,g,co];grind
section
variable{l:Li}{a:As}{r:Nat}(tw:Tw (llq a.rs) r)(hN:∀p∈aG a,Nq (llq a.rs).length p)
include tw hN
theorem tz{bs':List Pq}{b:Int}(h:bs'.getD b.toNat aN=(aG a).getD b.toNat aN):fI (aG a) bs' (llq a.rs).length b:=by
 have:=tw;exact⟨h,tY hN _⟩
theorem NZ{u:Rat×Rat}(h:cf u u≠0):0<ao (qE (cf u u):Et (llq a.rs)):=by
 have:=tw;have:=hN;have h0:0<=cf u u:=Rat.add_nonneg (pN u.1) (pN u.2)
 have h1:0<cf u u:=by
  rcases Rat.le_iff_lt_or_eq.1 h0 with g |g
  ·exact g
  ·exact ao5 g.symm h
 rw[yB,yZ h1];decide
theorem ahh{i k z0 z1 z2:Int}{j0 j1 j2:Jt}(ne:i≠k)(t0:TieO l 0 [i,k] z0 i j0)(t1:TieO l 0 [i,k] z1 k j1)(h2:l.jo[z2.toNat]?=some j2)(kd:j2.kind=0)
  (tie:(j2.a=i/\j2.b=k)\/(j2.b=i/\j2.a=k)) (hi:0<=i) (hk:0<=k) (eK:i.toNat<(aG a).length) (Dx:k.toNat<(aG a).length) (hn:∀j∈l.jo,0<=j.a/\0<=j.b)
  {s:Sv} (hs:s∈kN l a i k j0 j1 j2):GrpH l a ⟨1,[i,k],[z0,z1,z2],0⟩ s:=by
 unfold kN at hs;split at hs
 ·cases hs
 ·rename_i hz;obtain⟨w1,w2⟩:=wb (amx.2 hz);split at hs
  ·cases hs
  ·rename_i hc;have hc:=anj.1 hc;have geo:=TF tw (fun X hX=>vd tw.pos hX) hc (NZ tw hN w1);unfold mX at hs;obtain⟨m,hm,rfl⟩:=al0.1 hs;obtain⟨x,hx⟩:=aB (alh.1 hm);have G:=geo x (ank hx);unfold kV;rw[aw hx];have e0:TieO l 0 [i,k] z0 i j0:=t0;obtain⟨n0,n1⟩:=hn j0 (ank t0.hj);obtain⟨n2,n3⟩:=hn j1 (ank t1.hj);have bV:i.toNat≠k.toNat:=by omega
   generalize hM:eP (aH l a j0 i) (aH l a j1 k) (qE (bq (ak l j2 i) (ak l j0 i))) (qE (bq (ak l j2 k) (ak l j1 k)))=M at *;obtain⟨B0,fQ⟩:∃B0,B0=oS M.ts x ⟨ak l j0 i,P2.l (aH l a j0 i),ak l j2 i⟩:=⟨_,rfl⟩
   obtain⟨B1,uQ⟩:∃B1,B1=oS M.ts x ⟨ak l j1 k,P2.l (aH l a j1 k),ak l j2 k⟩:=⟨_,rfl⟩
   have dV:bi (aG a) [i,k] [B0,B1]=((aG a).set i.toNat B0).set k.toNat B1:=rfl;have g0:(bi (aG a) [i,k] [B0,B1]).getD i.toNat aN=B0:=by rw[dV,oh hk hi ne,qg eK]
   have g1:(bi (aG a) [i,k] [B0,B1]).getD k.toNat aN=B1:=by rw[dV,qg (by rw[aox];exact Dx)]
   have gn:∀b:Int,0<=b->b∉[i,k]->fI (aG a) (bi (aG a) [i,k] [B0,B1]) (llq a.rs).length b:=fun b h0 hb=>tz tw hN (by
    rw[dV,oh hk h0 (fun e=>hb (by simp[e])),oh hi h0 (fun e=>hb (by simp[e]))])
   have p0:a8 M.ts B0 (ak l j0 i)=(ax M.ts (aH l a j0 i).1,ax M.ts (aH l a j0 i).2):=by rw[fQ];exact yU
   have p1:a8 M.ts B1 (ak l j1 k)=(ax M.ts (aH l a j1 k).1,ax M.ts (aH l a j1 k).2):=by rw[uQ];exact yU
   have q0:a8 M.ts B0 (ak l j2 i)=(dE M.ts x.1,dE M.ts x.2):=by
    rw[fQ];refine(zf w1).trans ?_;unfold oP m9;refine Prod.ext ?_ ?_
    ·dsimp only;grind
    ·dsimp only;grind
   have q1:a8 M.ts B1 (ak l j2 k)=(dE M.ts x.1,dE M.ts x.2):=by
    rw[uQ];refine(zf w2).trans ?_;unfold oP m9;refine Prod.ext ?_ ?_
    ·dsimp only;grind
    ·dsimp only;grind
   refine⟨G.lf,?_,?_⟩
   ·intro z hz;show JH l M.ts (bi (aG a) [i,k] [_,_]) _;rw[<- fQ,<- uQ];rcases an9.1 hz with rfl |hz
    ·rw[aw t0.hj];refine G.lf.pin t0.kd (i:=i) ?_ (by rw[g0]; exact p0);rcases t0.tie with ⟨e,hb⟩ | ⟨e,hb⟩
     ·exact .inl ⟨e,gn _ n1 hb⟩
     ·exact .inr ⟨fun e2=>hb (by simp[e2]),e,gn _ n0 hb⟩
    ·rcases an9.1 hz with rfl |hz
     ·rw[aw t1.hj];refine G.lf.pin t1.kd (i:=k) ?_ (by rw[g1]; exact p1);rcases t1.tie with ⟨e,hb⟩ | ⟨e,hb⟩
      ·exact .inl ⟨e,gn _ n3 hb⟩
      ·exact .inr ⟨fun e2=>hb (by simp[e2]),e,gn _ n2 hb⟩
     ·rw[alr.1 hz,aw h2]
      have key:aq l M.ts (bi (aG a) [i,k] [B0,B1]) j2.a j2.point=aq l M.ts (bi (aG a) [i,k] [B0,B1]) j2.b j2.on:=by
       unfold aq;rcases tie with⟨e,e'⟩ |⟨e,e'⟩
       ·have c0:ak l j2 i=aE l i j2.point:=by unfold ak; rw[aoz e]
        have c1:ak l j2 k=aE l k j2.on:=by unfold ak;rw[aoy oz]
        rw[e,e',g0,g1,<- c0,<- c1,q0,q1]
       ·have c0:ak l j2 k=aE l k j2.point:=by unfold ak; rw[aoz e']
        have c1:ak l j2 i=aE l i j2.on:=by unfold ak;rw[aoy oz]
        rw[e,e',g0,g1,<- c0,<- c1,q0,q1]
      exact Ce G.lf.pos kd (by rw[key]) (by rw[key])
   ·intro b hb;show CH M.ts ((bi (aG a) [i,k] [_,_]).getD b.toNat aN);rw[<- fQ,<- uQ];rcases an9.1 hb with rfl |hb
    ·rw[g0,fQ];refine Bn G.lf.pos w1 ?_;have:=G.c1;rw[G.lf.q]at this;exact this
    ·rw[alr.1 hb,g1,uQ];refine Bn G.lf.pos w2 ?_;have:=G.c2;rw[G.lf.q]at this;exact this
theorem abj{i z0 z1:Int}{j0 j:Jt}(t0:TieO l 0 [i] z0 i j0)(t1:TieO l 1 [i] z1 i j)(ha:j.a=i)(hi:0<=i)(eK:i.toNat<(aG a).length)(hn:∀j∈l.jo,0<=j.a/\0<=j.b)
  {s:Sv} (hs:s∈lh l a i j0 j):GrpH l a ⟨2,[i],[z0,z1],0⟩ s:=by
 unfold lh at hs;split at hs
 ·cases hs
 ·rename_i hz;have w1:=vu (amx.2 hz);split at hs
  ·cases hs
  ·rename_i hc;have hc:=anj.1 hc;have geo:=acv tw (fun X hX=>vd tw.pos hX) (c:=aH l a j0 i) (z:=qE (bq (aE l i j.point) (ak l j0 i))) hc;unfold mX at hs;obtain⟨m,hm,rfl⟩:=al0.1 hs;obtain⟨x,hx⟩:=aB (alh.1 hm);have G:=geo x (ank hx);have L:=G.lf;unfold kV;rw[aw hx];obtain⟨n0,n1⟩:=hn j0 (ank t0.hj);obtain⟨n2,n3⟩:=hn j (ank t1.hj);generalize hM:eM (bh l a j.b j.on) (bh l a j.b j.to) (aH l a j0 i) (qE (bq (aE l i j.point) (ak l j0 i)))=M at *;obtain⟨B0,fQ⟩:∃B0,B0=oS M.ts x ⟨ak l j0 i,P2.l (aH l a j0 i),aE l i j.point⟩:=⟨_,rfl⟩
   have dV:bi (aG a) [i] [B0]=(aG a).set i.toNat B0:=rfl;have g0:(bi (aG a) [i] [B0]).getD i.toNat aN=B0:=by rw[dV,qg eK]
   have gn:∀b:Int,0<=b->b∉[i]->fI (aG a) (bi (aG a) [i] [B0]) (llq a.rs).length b:=fun b h0 hb=>tz tw hN (by
    rw[dV,oh hi h0 (fun e=>hb (by simp[e]))])
   have p0:a8 M.ts B0 (ak l j0 i)=(ax M.ts (aH l a j0 i).1,ax M.ts (aH l a j0 i).2):=by rw[fQ];exact yU
   have q0:a8 M.ts B0 (aE l i j.point)=(dE M.ts x.1,dE M.ts x.2):=by
    rw[fQ];refine(zf w1).trans ?_;unfold oP m9;refine Prod.ext ?_ ?_
    ·dsimp only;grind
    ·dsimp only;grind
   have mC:fI (aG a) (bi (aG a) [i] [B0]) (llq a.rs).length j.b:=by
    rcases t1.tie with⟨e,hb⟩ |⟨e,hb⟩
    ·exact gn _ n3 hb
    ·exact ao5 (by simp[ha]) hb
   refine⟨G.lf,?_,?_⟩
   ·intro z hz;show JH l M.ts (bi (aG a) [i] [_]) _;rw[<- fQ];rcases an9.1 hz with rfl |hz
    ·rw[aw t0.hj];refine L.pin t0.kd (i:=i) ?_ (by rw[g0]; exact p0);rcases t0.tie with ⟨e,hb⟩ | ⟨e,hb⟩
     ·exact .inl ⟨e,gn _ n1 hb⟩
     ·exact .inr ⟨fun e2=>hb (by simp[e2]),e,gn _ n0 hb⟩
    ·rw[alr.1 hz,aw t1.hj];refine E9 L.pos (by rw[t1.kd]; decide) ?_;have ec:=(fV L.pos).2 G.l;rw[bE,bm,bm,bE,bE,bE,bE,f6,f6] at ec;have on:=L.pt l mC j.on;have to:=L.pt l mC j.to
     have pp:aq l M.ts (bi (aG a) [i] [B0]) j.a j.point=(dE M.ts x.1,dE M.ts x.2):=by
      unfold aq;rw[ha,g0,q0]
     rw[pp,on.1,on.2,to.1,to.2];exact ec
   ·intro b hb;show CH M.ts ((bi (aG a) [i] [_]).getD b.toNat aN);rw[<- fQ,alr.1 hb,g0,fQ];refine Bn L.pos w1 ?_;have:=G.c;rw[L.q]at this;exact this
theorem Hc{i z0 z1:Int}{j0 j:Jt}(t0:TieO l 0 [i] z0 i j0)(t1:TieO l 1 [i] z1 i j)(ha:j.a≠i)(hi:0<=i)(eK:i.toNat<(aG a).length)(hn:∀j∈l.jo,0<=j.a/\0<=j.b)(hv:cf (cP l i j) (cP l i j)≠0)
  (hd:ao (cH l a i j0 j)≠0) {T:LL} (L:Lf (llq a.rs) T) {q:List Rat} (hq:ae L.pos (dE T q*dE T q)=ae L.pos (ax T (bD l a i j0 j))) {n:Int} :
  GrpH l a ⟨3,[i],[z0,z1],0⟩ ⟨T,[sP T (er l a i j0 j) q],n⟩:=by
 obtain⟨n0,n1⟩:=hn j0 (ank t0.hj);obtain⟨n2,n3⟩:=hn j (ank t1.hj)
 obtain⟨tb,tn⟩:j.b=i/\j.a∉[i]:=by
  rcases t1.tie with⟨e,hb⟩ |h
  ·exact ao5 e ha
  ·exact h
 obtain⟨w,hw⟩:∃w:P2 T,w=r5 T q (er l a i j0 j).h (er l a i j0 j).d (er l a i j0 j).w:=⟨_,rfl⟩
 obtain⟨o,ho⟩:∃o:P2 T,o=(ax T (aH l a j0 i).1,ax T (aH l a j0 i).2):=⟨_,rfl⟩
 obtain⟨B0,fQ⟩:∃B0,B0=jK (cP l i j) w (ak l j0 i) o:=⟨_,rfl⟩
 have e0:sP T (er l a i j0 j) q=B0:=by rw[fQ,hw,ho];rfl
 rw[e0];have dV:bi (aG a) [i] [B0]=(aG a).set i.toNat B0:=rfl;have g0:(bi (aG a) [i] [B0]).getD i.toNat aN=B0:=by rw[dV,qg eK]
 have gn:∀b:Int,0<=b->b∉[i]->fI (aG a) (bi (aG a) [i] [B0]) (llq a.rs).length b:=fun b h0 hb=>tz tw hN (by
  rw[dV,oh hi h0 (fun e=>hb (by simp[e]))])
 have hD:ae L.pos (ax T (cH l a i j0 j))=ae L.pos (ax T (cE l a i j0 j).1)*ae L.pos (ax T (cE l a i j0 j).1)+ae L.pos (ax T (cE l a i j0 j).2)*ae L.pos (ax T (cE l a i j0 j).2):=by
  rw[<- L.mul,<- L.mul,<- L.add];rfl
 have hI:ae L.pos (iE (ax T (cH l a i j0 j)))*ae L.pos (ax T (cH l a i j0 j))=1:=tO L.pos (fun e=>hd ((L.zero _).1 e))
 have hX:ae L.pos (dE T q)*ae L.pos (dE T q)=ae L.pos (qE (jY l i j))*ae L.pos (ax T (cH l a i j0 j))-ae L.pos (qE (cB l i j0 j))*ae L.pos (qE (cB l i j0 j)):=by
  rw[<- bm,hq];unfold bD;rw[L.sub,L.mul,L.mul,L.q,L.q]
 have eh:dE T (er l a i j0 j).h=qE (cB l i j0 j):=kM _ _;have x1:w.1=(dE T q*ax T (cE l a i j0 j).1-qE (cB l i j0 j)*-ax T (cE l a i j0 j).2)*iE (ax T (cH l a i j0 j)):=by rw[hw,<- eh];rfl
 have x2:w.2=(dE T q*ax T (cE l a i j0 j).2-qE (cB l i j0 j)*ax T (cE l a i j0 j).1)*iE (ax T (cH l a i j0 j)):=by rw[hw,<- eh];rfl
 have G:=Wa hD hI hX (w1:=ae L.pos w.1) (w2:=ae L.pos w.2) (by rw[x1,bm,bE,bm,bm,JR]) (by rw[x2,bm,bE,bm,bm])
 have hc:CH T B0:=by
  rw[fQ];refine Bn L.pos hv ?_;refine(ig L.pos (x:=w.1*w.1+w.2*w.2) (y:=qE (cf (cP l i j) (cP l i j)))).1 ?_;rw[di,bm,bm,G.1];rfl
 refine⟨L,?_,?_⟩
 ·intro z hz;show JH l T (bi (aG a) [i] [B0]) _;rcases an9.1 hz with rfl |hz
  ·rw[aw t0.hj];refine L.pin t0.kd (i:=i) ?_ (by rw[g0,fQ,yU,ho]);rcases t0.tie with ⟨e,hb⟩ | ⟨e,hb⟩
   ·exact .inl ⟨e,gn _ n1 hb⟩
   ·exact .inr ⟨fun e2=>hb (by simp[e2]),e,gn _ n0 hb⟩
  ·rw[alr.1 hz,aw t1.hj];refine E9 L.pos (by rw[t1.kd]; decide) ?_;have pp:=L.pt l (gn _ n2 tn) j.point;have eon:aq l T (bi (aG a) [i] [B0]) j.b j.on=a8 T B0 (aE l i j.on):=by unfold aq; rw[tb,g0]
   have eto:aq l T (bi (aG a) [i] [B0]) j.b j.to=a8 T B0 (aE l i j.to):=by unfold aq;rw[tb,g0]
   have W1:ae L.pos (ax T (cE l a i j0 j).1)=ae L.pos (ax T (aq l (llq a.rs) (aG a) j.a j.point).1)-ae L.pos o.1:=by
    rw[ho,<- L.sub,<- f6];rfl
   have W2:ae L.pos (ax T (cE l a i j0 j).2)=ae L.pos (ax T (aq l (llq a.rs) (aG a) j.a j.point).2)-ae L.pos o.2:=by
    rw[ho,<- L.sub,<- f6];rfl
   have g2:=G.2;rw[W1,W2]at g2;rw[pp.1,pp.2,eon,eto,fQ,sM,sM];have gg:=G0 (w:=w) hv
   have co:ae L.pos (eF (cP l i j) w)*ae L.pos (eF (cP l i j) w)+ae L.pos (dY (cP l i j) w)*ae L.pos (dY (cP l i j) w)=1:=by
    have h9:=(fV L.pos).2 hc;rw[fQ,AN,BK,bE,di,bm,bm,Oj]at h9;grind
   have v1:(qE (cP l i j).1:Et T)=qE ((aE l i j.to).1-(ak l j0 i).1)-qE ((aE l i j.on).1-(ak l j0 i).1):=by rw[<- pJ];congr 1;show(aE l i j.to).1-(aE l i j.on).1=_;grind
   have v2:(qE (cP l i j).2:Et T)=qE ((aE l i j.to).2-(ak l j0 i).2)-qE ((aE l i j.on).2-(ak l j0 i).2):=by rw[<- pJ];congr 1;show(aE l i j.to).2-(aE l i j.on).2=_;grind
   have hh:(qE (cB l i j0 j):Et T)=qE (cP l i j).1*qE ((aE l i j.on).2-(ak l j0 i).2)-qE (cP l i j).2*qE ((aE l i j.on).1-(ak l j0 i).1):=by
    rw[<- jS,<- jS,<- pJ];rfl
   have y1:=ao6 (ae L.pos) gg.1;have y2:=ao6 (ae L.pos) gg.2;rw[hh,bE,bm,bm]at g2;rw[v1,v2]at g2 y1 y2;simp only[di,bE,bm]at g2 y1 y2 ⊢
   revert co g2 y1 y2
   generalize ae L.pos (qE ((aE l i j.to).1-(ak l j0 i).1):Et T)=a1;generalize ae L.pos (qE ((aE l i j.to).2-(ak l j0 i).2):Et T)=a2;generalize ae L.pos (qE ((aE l i j.on).1-(ak l j0 i).1):Et T)=b1;generalize ae L.pos (qE ((aE l i j.on).2-(ak l j0 i).2):Et T)=b2;generalize ae L.pos (eF (cP l i j) w)=C;generalize ae L.pos (dY (cP l i j) w)=S;generalize ae L.pos (ax T (aq l (llq a.rs) (aG a) j.a j.point).1)=P1;generalize ae L.pos (ax T (aq l (llq a.rs) (aG a) j.a j.point).2)=P2;generalize ae L.pos o.1=o1;generalize ae L.pos o.2=o2;generalize ae L.pos w.1=x1;generalize ae L.pos w.2=x2;intro co g2 y1 y2;exact aey co g2 y1 y2
 ·intro b hb;rw[alr.1 hb];show CH T ((bi (aG a) [i] [B0]).getD i.toNat aN);rw[g0];exact hc
end
theorem L4(half:Bool)(t:Rat):d8 half t*d8 half t+d6 half t*d6 half t=1:=by
 unfold d8 d6;cases half
 ·have h:1+t*t≠0:=by
   have:=pN t;intro e;grind
  simp only[ams,if_false]
  have e1:(1-t*t)/(1+t*t)*((1-t*t)/(1+t*t))+(t+t)/(1+t*t)*((t+t)/(1+t*t))=((1-t*t)*(1-t*t)+(t+t)*(t+t))*((1+t*t)⁻¹*(1+t*t)⁻¹):=by
   rw[Rat.div_def,Rat.div_def];grind
  rw[e1];have e2:(1+t*t)*(1+t*t)⁻¹=1:=Rat.mul_inv_cancel _ h;generalize(1+t*t)⁻¹=k at e2 ⊢;have e3:((1-t*t)*(1-t*t)+(t+t)*(t+t))*(k*k)=((1+t*t)*k)*((1+t*t)*k):=by grind
  rw[e3,e2,Rat.one_mul]
 ·simp only[if_true];decide +kernel
section
variable{l:Li}{a:As}{r:Nat}(tw:Tw (llq a.rs) r)(hN:∀p∈aG a,Nq (llq a.rs).length p)
include tw hN
theorem Sn{i z0 z1:Int}{j0 j:Jt}(t0:TieO l 0 [i] z0 i j0)(t1:TieO l 1 [i] z1 i j)(ha:j.a≠i)(hi:0<=i)(eK:i.toNat<(aG a).length)(hn:∀j∈l.jo,0<=j.a/\0<=j.b)(hv:cf (cP l i j) (cP l i j)≠0)
  {s:Sv} (hs:s∈kc l a i j0 j):GrpH l a ⟨3,[i],[z0,z1],0⟩ s:=by
 unfold kc at hs;split at hs
 ·cases hs
 ·rename_i h1;split at hs
  ·cases hs
  ·rename_i h2;have hd:=vi tw h2 h1;split at hs
   ·rename_i h3;have hp:=vd tw.pos h3;have L:=vJ (bD l a i j0 j) hp;have e:=DJ (bD l a i j0 j);unfold mP at hs;obtain⟨m,hm,rfl⟩:=al0.1 hs;have hm:=alh.1 hm;unfold lM
    match m,hm with
    |0,_ =>
     refine Hc tw hN t0 t1 ha hi eK hn hv hd L ?_;show ae L.pos (bM (bD l a i j0 j)*bM (bD l a i j0 j))=_;rw[e];rfl
    |1,_ =>
     refine Hc tw hN t0 t1 ha hi eK hn hv hd L ?_;show ae L.pos (dE _ (sX (-bM (bD l a i j0 j)))*dE _ (sX (-bM (bD l a i j0 j))))=_;rw[fS,show -bM (bD l a i j0 j)*-bM (bD l a i j0 j)=bM (bD l a i j0 j)*bM (bD l a i j0 j) by grind,e];rfl
    |m+2,h=>exact ao5 h (by simp)
   ·rename_i h3;have hX:ao (bD l a i j0 j)=0:=by omega
    have L:=oN (ts:=llq a.rs) tw.pos;unfold mP at hs;obtain⟨m,hm,rfl⟩:=al0.1 hs;have hm:=alh.1 hm;unfold lM
    match m,hm with
    |0,_ =>
     refine Hc tw hN t0 t1 ha hi eK hn hv hd L ?_;show ae L.pos (dE _ []*dE _ [])=_;have e0:(dE (llq a.rs) []:Et (llq a.rs))=0:=by rw[E.zero_def];exact jX _
     rw[e0,dH];refine((fV L.pos).2 ?_).trans ((fV L.pos).2 hX).symm;rw[show(0:Et (llq a.rs))*0=0 by grind];exact(eG _ _ L.pos).zero
    |m+1,h=>exact ao5 h (by simp)
theorem acl{i z0 d:Int}{j0:Jt}(t0:TieO l 0 [i] z0 i j0)(hi:0<=i)(eK:i.toNat<(aG a).length)(hn:∀j∈l.jo,0<=j.a/\0<=j.b){x:Tn}
  {s:Sv} (hs:s∈lW l a i j0 x):GrpH l a ⟨0,[i],[z0],d⟩ s/\dE s.ts ((bi (aG a) [i] s.ps).getD i.toNat aN).c=qE (d8 x.half x.t.q)/\dE s.ts ((bi (aG a) [i] s.ps).getD i.toNat aN).s=qE (d6 x.half x.t.q):=by
 unfold lW at hs;split at hs
 ·cases hs
 ·rw[alr.1 hs];obtain⟨n0,n1⟩:=hn j0 (ank t0.hj);have L:=oN (ts:=llq a.rs) tw.pos;have dV:∀B0,bi (aG a) [i] [B0]=(aG a).set i.toNat B0:=fun _=>rfl
  have g0:∀B0,(bi (aG a) [i] [B0]).getD i.toNat aN=B0:=fun B0=>by rw[dV,qg eK]
  have gn:∀(B0:Pq)(b:Int),0<=b->b∉[i]->fI (aG a) (bi (aG a) [i] [B0]) (llq a.rs).length b:=fun B0 b h0 hb=>tz tw hN (by
   rw[dV,oh hi h0 (fun e=>hb (by simp[e]))])
  have eN:(ol (((1:Int):Rat),0):Et (llq a.rs))=qE 1:=ao6 qE (show((1:Int):Rat)*((1:Int):Rat)+0*0=1 by decide +kernel);have q1:(qE 1:Et (llq a.rs))=1:=rfl
  have hc:(dE (llq a.rs) (oF l a i j0 x).c:Et (llq a.rs))=qE (d8 x.half x.t.q):=by
   unfold oF;rw[AN];unfold eF;rw[eN,En,qk,Ef];grind
  have pj:(dE (llq a.rs) (oF l a i j0 x).s:Et (llq a.rs))=qE (d6 x.half x.t.q):=by
   unfold oF;rw[BK];unfold dY;rw[eN,En,qk,Ef];grind
  refine⟨⟨L,?_,?_⟩,by rw[g0];exact hc,by rw[g0];exact pj⟩
  ·intro z hz;rw[alr.1 hz,aw t0.hj];show JH l (llq a.rs) (bi (aG a) [i] [oF l a i j0 x]) j0;refine L.pin t0.kd (i:=i) ?_ (by rw[g0,dH,dH]; exact yU);rcases t0.tie with ⟨e,hb⟩ | ⟨e,hb⟩
   ·exact .inl ⟨e,gn _ _ n1 hb⟩
   ·exact .inr ⟨fun e2=>hb (by simp[e2]),e,gn _ _ n0 hb⟩
  ·intro b hb;rw[alr.1 hb];show CH (llq a.rs) ((bi (aG a) [i] [oF l a i j0 x]).getD i.toNat aN);rw[g0];unfold CH;rw[hc,pj,<- jS,<- jS,<- rc,L4,q1,show(1:Et (llq a.rs))-1=0 by grind];exact(eG _ _ L.pos).zero
theorem OZ{g:Gr}(hg:DyK l g)(jC:∀b∈g.bo,0<=b/\b.toNat<(aG a).length)(au:aM l=0){x:Tn}{s:Sv}(hs:s∈fE l a g x):GrpH l a g s/\(g.kind=0->dE s.ts ((bi (aG a) g.bo s.ps).getD (ay g 0).toNat aN).c=qE (d8 x.half x.t.q)/\dE s.ts ((bi (aG a) g.bo s.ps).getD (ay g 0).toNat aN).s=qE (d6 x.half x.t.q)):=by
 have hn:∀j∈l.jo,0<=j.a/\0<=j.b:=fun j hj=>by
  obtain⟨n,hn⟩:=alt hj;obtain⟨i1,i2,_⟩:=dZ au hn;have i1:=cS i1;have i2:=cS i2;omega
 cases hg with
 | @drv b z d j dr t d0 hd hb =>
  have e:aj l ⟨0,[b],[z],d⟩ 0=j:=aw t.hj;have hs:s∈lW l a b j x:=by rw[<- e];exact hs
  obtain⟨h1,h2⟩:=jC b (by simp);have h:=acl (d:=d) tw hN t h1 h2 hn hs;exact⟨h.1,fun _=>h.2⟩
 | @rrr i k z0 z1 z2 j0 j1 j2 ne t0 t1 h0 h2 kd tie =>
  have e0:aj l ⟨1,[i,k],[z0,z1,z2],0⟩ 0=j0:=aw t0.hj;have e1:aj l ⟨1,[i,k],[z0,z1,z2],0⟩ 1=j1:=aw t1.hj;have e2:aj l ⟨1,[i,k],[z0,z1,z2],0⟩ 2=j2:=aw h2;have hs:s∈kN l a i k j0 j1 j2:=by rw[<- e0,<- e1,<- e2];exact hs
  obtain⟨b1,b2⟩:=jC i (by simp);obtain⟨b3,b4⟩:=jC k (by simp);exact⟨ahh tw hN ne t0 t1 h2 kd tie b1 b3 b2 b4 hn hs,fun h=>ao5 h (by simp)⟩
 | @pr i z0 z1 j0 j1 t0 t1 ha =>
  have e0:aj l ⟨2,[i],[z0,z1],0⟩ 0=j0:=aw t0.hj;have e1:aj l ⟨2,[i],[z0,z1],0⟩ 1=j1:=aw t1.hj;have hs:s∈lh l a i j0 j1:=by rw[<- e0,<- e1];exact hs
  obtain⟨b1,b2⟩:=jC i (by simp);exact⟨abj tw hN t0 t1 ha b1 b2 hn hs,fun h=>ao5 h (by simp)⟩
 | @rp i z0 z1 j0 j1 t0 t1 ha =>
  have e0:aj l ⟨3,[i],[z0,z1],0⟩ 0=j0:=aw t0.hj;have e1:aj l ⟨3,[i],[z0,z1],0⟩ 1=j1:=aw t1.hj;have hs:s∈kc l a i j0 j1:=by rw[<- e0,<- e1];exact hs
  obtain⟨b1,b2⟩:=jC i (by simp)
  have tb:j1.b=i:=by
   rcases t1.tie with⟨e,_⟩ |⟨e,_⟩
   ·exact ao5 e ha
   ·exact e
  exact⟨Sn tw hN t0 t1 ha b1 b2 hn (tu au t1.hj (by rw[t1.kd];decide) tb) hs,fun h=>ao5 h (by simp)⟩
end
theorem Vc{n N:Nat}(hN:N=n+1){r:(k:Nat)->T k}(h:T.sgn r n (r n)=1):T.sgn r N (af N (cW n))=1:=by
 subst hN;rw[O2];show T.sgn3 (T.sgn r n (T.zero n)) (T.sgn r n (T.ofQ n 1)) (T.sgn r n (r n)) _=1;rw[h,T.sgn_zero,T.sgn_ofQ];have e:b9 1=1:=by decide +kernel
 rw[e];rfl
theorem FD{ts:LL}{X:Et ts}(h:ao X=1):ao (bM X)=1:=by
 refine Vc (e8 _ _) ?_;rw[AP (anp _)]
 have e1:az (aX ts (sX X)) ts.length=X:=by
  show af ts.length ((aX ts (sX X)).getD ts.length [])=X;rw[zx,rO];exact bn _ _
 rw[e1];exact h
theorem IY{ts:LL}(hp:dj ts){X:Et ts}(h:0<ao X):ao X=1:=by
 rcases(eG _ _ hp).cs X with g |g |g
 ·have g:ao X=-1:=g;omega
 ·have g:ao X=0:=g;omega
 ·exact g
theorem me{ts:LL}(hp:dj ts){x y:Et ts}(h:ae hp x=ae hp y):ao x=ao y:=(eG _ _ hp).sub0 ((ig hp).1 h)
theorem B8{ts:LL}(hp:dj ts)(x:Et ts):ao (-x)=-ao x:=(eG _ _ hp).neg x
theorem x8{ts:LL}(hp:dj ts)(x:Et ts):ao (x+x)=ao x:=by
 have H:=eG (az ts) ts.length hp;show sg _ _ (x+x)=sg _ _ x;rcases H.cs x with h |h |h
 ·have n:=H.neg x;have a:=H.padd (x:=-x) (y:=-x) oz oz;have e:=H.neg (x+x);rw[show -(x+x)=-x+-x by grind,a]at e;omega
 ·rw[H.zadd h]
 ·rw[H.padd h oz];exact h.symm
section
variable{R:Type}[CommRing R]
theorem afl{p1 p2 q1 q2 i t a x y:R}(hi:i*(((p1-q1)*(p1-q1)+(p2-q2)*(p2-q2))+((p1-q1)*(p1-q1)+(p2-q2)*(p2-q2)))=1)
  (hx:x=p1+a*i*(q1-p1)+t*(i*-(q2-p2))) (hy:y=p2+a*i*(q2-p2)+t*(i*(q1-p1))) :
  ((q1-p1)*(y-p2)-(q2-p2)*(x-p1))+((q1-p1)*(y-p2)-(q2-p2)*(x-p1))=t:=by
 have e:((q1-p1)*(y-p2)-(q2-p2)*(x-p1))+((q1-p1)*(y-p2)-(q2-p2)*(x-p1))=t*(i*(((p1-q1)*(p1-q1)+(p2-q2)*(p2-q2))+((p1-q1)*(p1-q1)+(p2-q2)*(p2-q2)))):=by
  rw[hx,hy];clear hi hx hy;grind
 rw[e,hi];grind
theorem acc{p1 p2 q1 q2 c1 c2 i t k x y:R}(hi:i*((q1-p1)*(q1-p1)+(q2-p2)*(q2-p2))=1)(hk:k=((q1-p1)*(c1-p1)+(q2-p2)*(c2-p2)+t)*i)
  (hx:x=p1+k*(q1-p1)) (hy:y=p2+k*(q2-p2)):(q1-p1)*(x-c1)+(q2-p2)*(y-c2)=t:=by
 have e:(q1-p1)*(x-c1)+(q2-p2)*(y-c2)=k*((q1-p1)*(q1-p1)+(q2-p2)*(q2-p2))-((q1-p1)*(c1-p1)+(q2-p2)*(c2-p2)):=by
  rw[hx,hy];clear hi hk hx hy;grind
 have e2:k*((q1-p1)*(q1-p1)+(q2-p2)*(q2-p2))=((q1-p1)*(c1-p1)+(q2-p2)*(c2-p2)+t)*(i*((q1-p1)*(q1-p1)+(q2-p2)*(q2-p2))):=by
  rw[hk];clear hi hk hx hy e;grind
 rw[e,e2,hi];grind
theorem Yd{W1 W2 hh i t D w1 w2:R}(hD:D=W1*W1+W2*W2)(hi:i*D=1)(h1:w1=(t*W1-hh*-W2)*i)(h2:w2=(t*W2-hh*W1)*i):w1*W1+w2*W2=t:=by
 have e:w1*W1+w2*W2=t*(i*D):=by rw[h1,h2,hD];clear hD hi h1 h2;grind
 rw[e,hi];grind
theorem Y0{ts:LL}{f:Et ts->R}(h:Hm f){p q:P2 ts}{z z2:Et ts}(df:ao (aC p q+aC p q)≠0){t x y:R}
  (hx:x=f (dT p q z z2).1+t*f (jL p q).1) (hy:y=f (dT p q z z2).2+t*f (jL p q).2) :
  ((f q.1-f p.1)*(y-f p.2)-(f q.2-f p.2)*(x-f p.1))+((f q.1-f p.1)*(y-f p.2)-(f q.2-f p.2)*(x-f p.1))=t:=by
 have d:=r6 h p q;have hi:=h.inv _ df;rw[h.add,d]at hi;refine afl hi (a:=f z+((f p.1-f q.1)*(f p.1-f q.1)+(f p.2-f q.2)*(f p.2-f q.2))-f z2) ?_ ?_
 ·rw[hx,Cp];unfold dz jL;dsimp only;show f (p.1+qE ((1:Int):Rat)*iE (aC p q+aC p q)*(z+aC p q-z2)*(q.1-p.1))+t*f (qE ((1:Int):Rat)*iE (aC p q+aC p q)*(0-(q.2-p.2)))=_;simp only[h.add,h.mul,h.sub,h.q1,h.nul,d];generalize(f p.1-f q.1)*(f p.1-f q.1)+(f p.2-f q.2)*(f p.2-f q.2)=D;generalize f (iE (aC p q+aC p q))=i;clear hi hx hy d;grind
 ·rw[hy,Cp];unfold dz jL;dsimp only;show f (p.2+qE ((1:Int):Rat)*iE (aC p q+aC p q)*(z+aC p q-z2)*(q.2-p.2))+t*f (qE ((1:Int):Rat)*iE (aC p q+aC p q)*(q.1-p.1))=_;simp only[h.add,h.mul,h.sub,h.q1,d];generalize(f p.1-f q.1)*(f p.1-f q.1)+(f p.2-f q.2)*(f p.2-f q.2)=D;generalize f (iE (aC p q+aC p q))=i;clear hi hx hy d;grind
theorem TA{ts:LL}{f:Et ts->R}(h:Hm f){p q c:P2 ts}(hd:ao (a9 p q)≠0){t x y:R}
  (hx:x=f (dz p (bX p q c*iE (a9 p q)) (aO q p)).1+t*f (ji p q).1) (hy:y=f (dz p (bX p q c*iE (a9 p q)) (aO q p)).2+t*f (ji p q).2) :
  (f q.1-f p.1)*(x-f c.1)+(f q.2-f p.2)*(y-f c.2)=t:=by
 have hi:=h.inv _ hd
 have eS:f (a9 p q)=(f q.1-f p.1)*(f q.1-f p.1)+(f q.2-f p.2)*(f q.2-f p.2):=by
  show f ((q.1-p.1)*(q.1-p.1)+(q.2-p.2)*(q.2-p.2))=_;simp only[h.add,h.mul,h.sub]
 have eE:f (bX p q c)=(f q.1-f p.1)*(f c.1-f p.1)+(f q.2-f p.2)*(f c.2-f p.2):=by
  show f ((q.1-p.1)*(c.1-p.1)+(q.2-p.2)*(c.2-p.2))=_;simp only[h.add,h.mul,h.sub]
 rw[eS]at hi;refine acc hi (k:=(f (bX p q c)+t)*f (iE (a9 p q))) (by rw[eE]) ?_ ?_
 ·rw[hx];unfold dz ji;show f (p.1+bX p q c*iE (a9 p q)*(q.1-p.1))+t*f (qE ((1:Int):Rat)*iE (a9 p q)*(q.1-p.1))=_;simp only[h.add,h.mul,h.sub,h.q1];generalize f (iE (a9 p q))=i;generalize f (bX p q c)=e;clear hi hx hy eS eE;grind
 ·rw[hy];unfold dz ji;show f (p.2+bX p q c*iE (a9 p q)*(q.2-p.2))+t*f (qE ((1:Int):Rat)*iE (a9 p q)*(q.2-p.2))=_;simp only[h.add,h.mul,h.sub,h.q1];generalize f (iE (a9 p q))=i;generalize f (bX p q c)=e;clear hi hx hy eS eE;grind
end
structure CirD(ts T:LL)(x:List Rat×List Rat)(p q:P2 ts)(z z2:Et ts)(m:Int):Prop where
  lf:Lf ts T
  ex:∀d:Et T,ae lf.pos d=(ae lf.pos (ax T q.1)-ae lf.pos (ax T p.1))*(ae lf.pos (dE T x.2)-ae lf.pos (ax T p.2))-(ae lf.pos (ax T q.2)-ae lf.pos (ax T p.2))*(ae lf.pos (dE T x.1)-ae lf.pos (ax T p.1)) ->
    ao d=m
section
variable{ts:LL}
theorem D0{T:LL}(L:Lf ts T){x:List Rat×List Rat}{p q:P2 ts}{z z2:Et ts}(df:ao (aC p q+aC p q)≠0){t:Et T}
  (hx:dE T x.1=ax T (dT p q z z2).1+t*ax T (jL p q).1) (hy:dE T x.2=ax T (dT p q z z2).2+t*ax T (jL p q).2) {m:Int} (hm:ao t=m):CirD ts T x p q z z2 m:=by
 have g:=Y0 L.hm df (z:=z) (z2:=z2) (t:=ae L.pos t) (x:=ae L.pos (dE T x.1)) (y:=ae L.pos (dE T x.2)) (by rw[hx];rfl) (by rw[hy];rfl);refine⟨L,fun d hd=>?_⟩;have e:ae L.pos (d+d)=ae L.pos t:=by rw[di,hd];exact g
 rw[<- hm,<- x8 L.pos d];exact me L.pos e
theorem Ss{r:Nat}(tw:Tw ts r){p q:P2 ts}{z z2:Et ts}(h0:gh p q z z2=0)(hz:0<ao z) :
  ∀(i:Nat)(x:List Rat×List Rat),(eP p q z z2).ps[i]?=some x->CirD ts (eP p q z z2).ts x p q z z2 (if(eP p q z z2).ps.length=1 then 0 else 1-2*(i:Int)):=by
 intro i x;unfold gh mJ at h0;unfold eP;split
 ·rename_i hd;rw[aoz hd]at h0;unfold pY;split
  ·intro hx;simp at hx
  ·intro hx;simp at hx
 ·rename_i hd;have df:=Km tw hd;split
  ·intro hx;simp at hx
  ·rename_i hn;split
   ·rename_i hX;intro hx
    match i,hx with
    |0,hx =>
     have hx:(dT p q z z2).l=x:=Option.some.inj hx;subst hx;have hp:dj ts:=tw.pos;refine D0 (oN hp) df (t:=0) ?_ ?_ ?_
     ·rw[dH,dH,fS];grind
     ·rw[dH,dH,fS];grind
     ·exact(eG _ _ hp).zero
    |i+1,hx=>simp at hx
   ·rename_i hX;have tl:0<ao (bC p z q z2):=by omega
    have hp:=vd tw.pos tl;have L:=vJ (bC p z q z2) hp;have s1:=FD (IY tw.pos tl);intro hx
    match i,hx with
    |0,hx =>
     have hx:(jE (bC p z q z2) (dT p q z z2) (iO p q) (fM (bC p z q z2) (aC p q))).l=x:=Option.some.inj hx;subst hx;refine D0 L df (t:=bM (bC p z q z2)) ?_ ?_ s1
     ·rw[fS];exact ao6 Prod.fst (xX (bC p z q z2) (dT p q z z2) p q)
     ·rw[fS];exact ao6 Prod.snd (xX (bC p z q z2) (dT p q z z2) p q)
    |1,hx =>
     have hx:(jE (bC p z q z2) (dT p q z z2) (iO p q) (qE ((-1:Int):Rat)*fM (bC p z q z2) (aC p q))).l=x:=Option.some.inj hx;subst hx;refine D0 L df (t:=-bM (bC p z q z2)) ?_ ?_ (by rw[B8 hp,s1];rfl)
     ·rw[fS,ao6 Prod.fst (BS (bC p z q z2) (dT p q z z2) p q)];show aQ _ _-_*aQ _ _=aQ _ _+-_*aQ _ _;grind
     ·rw[fS,ao6 Prod.snd (BS (bC p z q z2) (dT p q z z2) p q)];show aQ _ _-_*aQ _ _=aQ _ _+-_*aQ _ _;grind
    |i+2,hx=>simp at hx
structure LinD(ts T:LL)(x:List Rat×List Rat)(p q c:P2 ts)(z:Et ts)(m:Int):Prop where
  lf:Lf ts T
  ex:∀d:Et T,ae lf.pos d=(ae lf.pos (ax T q.1)-ae lf.pos (ax T p.1))*(ae lf.pos (dE T x.1)-ae lf.pos (ax T c.1))+(ae lf.pos (ax T q.2)-ae lf.pos (ax T p.2))*(ae lf.pos (dE T x.2)-ae lf.pos (ax T c.2)) ->
    ao d=m
theorem Hv{T:LL}(L:Lf ts T){x:List Rat×List Rat}{p q c:P2 ts}{z:Et ts}(hd:ao (a9 p q)≠0){t:Et T}
  (hx:dE T x.1=ax T (dz p (bX p q c*iE (a9 p q)) (aO q p)).1+t*ax T (ji p q).1) (hy:dE T x.2=ax T (dz p (bX p q c*iE (a9 p q)) (aO q p)).2+t*ax T (ji p q).2) {m:Int} (hm:ao t=m):LinD ts T x p q c z m:=by
 have g:=TA L.hm hd (c:=c) (t:=ae L.pos t) (x:=ae L.pos (dE T x.1)) (y:=ae L.pos (dE T x.2)) (by rw[hx];rfl) (by rw[hy];rfl);refine⟨L,fun d hd=>?_⟩;have e:ae L.pos d=ae L.pos t:=by rw[hd];exact g
 rw[<- hm];exact me L.pos e
theorem YO{r:Nat}(tw:Tw ts r){p q c:P2 ts}{z:Et ts}(h0:f7 p q=0) :
  ∀(i:Nat)(x:List Rat×List Rat),(eM p q c z).ps[i]?=some x->LinD ts (eM p q c z).ts x p q c z (if(eM p q c z).ps.length=1 then 0 else 1-2*(i:Int)):=by
 intro i x;unfold f7 at h0;unfold eM;split
 ·intro hx;simp at hx
 ·rename_i hd;split
  ·intro hx;simp at hx
  ·rename_i hn;split
   ·rename_i hX;intro hx
    match i,hx with
    |0,hx =>
     have hx:(dz p (bX p q c*iE (a9 p q)) (aO q p)).l=x:=Option.some.inj hx;subst hx;have hp:dj ts:=tw.pos;refine Hv (oN hp) hd (t:=0) ?_ ?_ ?_
     ·rw[dH,dH,fS];grind
     ·rw[dH,dH,fS];grind
     ·exact(eG _ _ hp).zero
    |i+1,hx=>simp at hx
   ·rename_i hX
    have hX2:ao (aW p q c z)=1:=by
     rcases(eG _ _ tw.pos).cs (aW p q c z)with g |g |g
     ·exact ao5 g hn
     ·exact ao5 g hX
     ·exact g
    have tl:0<ao (aW p q c z):=by omega
    have hp:=vd tw.pos tl;have L:=vJ (aW p q c z) hp;have s1:=FD hX2;intro hx
    match i,hx with
    |0,hx =>
     have hx:(mM (aW p q c z) p (aO q p) (ip (aW p q c z) (a9 p q) (aQ (aW p q c z) (bX p q c)+bM (aW p q c z)))).l=x:=Option.some.inj hx;subst hx;refine Hv L hd (t:=bM (aW p q c z)) ?_ ?_ s1
     ·rw[fS];exact ao6 Prod.fst (AU (aW p q c z) p q c)
     ·rw[fS];exact ao6 Prod.snd (AU (aW p q c z) p q c)
    |1,hx =>
     have hx:(mM (aW p q c z) p (aO q p) (ip (aW p q c z) (a9 p q) (aQ (aW p q c z) (bX p q c)-bM (aW p q c z)))).l=x:=Option.some.inj hx;subst hx;refine Hv L hd (t:=-bM (aW p q c z)) ?_ ?_ (by rw[B8 hp,s1];rfl)
     ·rw[fS,ao6 Prod.fst (B3 (aW p q c z) p q c)];show aQ _ _-_*aQ _ _=aQ _ _+-_*aQ _ _;grind
     ·rw[fS,ao6 Prod.snd (B3 (aW p q c z) p q c)];show aQ _ _-_*aQ _ _=aQ _ _+-_*aQ _ _;grind
    |i+2,hx=>simp at hx
end
def pinP(l:Li)(T:LL)(bs:List Pq)(j:Jt)(b:Int):P2 T:=if j.a=b then aq l T bs j.b j.on else aq l T bs j.a j.point
def dQ(l:Li)(T:LL)(bs:List Pq)(g:Gr):Et T :=
  if g.kind=0 then qE 1
  else if g.kind=1 then k9 (aO (pinP l T bs (aj l g 1) (ay g 1)) (pinP l T bs (aj l g 0) (ay g 0))) (aO (a8 T (bs.getD (ay g 0).toNat aN) (ak l (aj l g 2) (ay g 0))) (pinP l T bs (aj l g 0) (ay g 0)))
  else if g.kind=2 then db (aO (aq l T bs (aj l g 1).b (aj l g 1).to) (aq l T bs (aj l g 1).b (aj l g 1).on)) (aO (a8 T (bs.getD (ay g 0).toNat aN) (aE l (ay g 0) (aj l g 1).point)) (pinP l T bs (aj l g 0) (ay g 0)))
  else db (aO (aq l T bs (aj l g 1).b (aj l g 1).to) (aq l T bs (aj l g 1).b (aj l g 1).on)) (aO (aq l T bs (aj l g 1).a (aj l g 1).point) (pinP l T bs (aj l g 0) (ay g 0)))
def mc(l:Li)(T:LL)(bs:List Pq)(g:Gr):Et T :=
  if g.kind=0 then qE 1
  else if g.kind=1 then bC (pinP l T bs (aj l g 0) (ay g 0)) (qE (bq (ak l (aj l g 2) (ay g 0)) (ak l (aj l g 0) (ay g 0)))) (pinP l T bs (aj l g 1) (ay g 1)) (qE (bq (ak l (aj l g 2) (ay g 1)) (ak l (aj l g 1) (ay g 1))))
  else if g.kind=2 then aW (aq l T bs (aj l g 1).b (aj l g 1).on) (aq l T bs (aj l g 1).b (aj l g 1).to) (pinP l T bs (aj l g 0) (ay g 0)) (qE (bq (aE l (ay g 0) (aj l g 1).point) (ak l (aj l g 0) (ay g 0))))
  else qE (jY l (ay g 0) (aj l g 1))*db (aO (aq l T bs (aj l g 1).a (aj l g 1).point) (pinP l T bs (aj l g 0) (ay g 0))) (aO (aq l T bs (aj l g 1).a (aj l g 1).point) (pinP l T bs (aj l g 0) (ay g 0)))
    - qE (cB l (ay g 0) (aj l g 0) (aj l g 1))*qE (cB l (ay g 0) (aj l g 0) (aj l g 1))
theorem n7(l:Li)(a:As)(j:Jt)(b:Int):aH l a j b=pinP l (llq a.rs) (aG a) j b:=by
 unfold aH pinP;split
 ·exact f6 l a _ _
 ·exact f6 l a _ _
theorem sK(l:Li)(a:As)(g:Gr):se l a g=mc l (llq a.rs) (aG a) g:=by
 unfold se mc cH cE;simp only[n7,f6];rfl
def q8{T:LL}(k:Int)(d:Et T):Et T:=if k=1 then(d+d)*(d+d)else d*d
section
variable{ts T:LL}(L:Lf ts T)
include L
theorem Lf.pinP{l:Li}{bs bs':List Pq}{j:Jt}(b:Int)(ha:fI bs bs' ts.length j.a)(hb:fI bs bs' ts.length j.b) :
  ae L.pos (Lw.pinP l T bs' j b).1=ae L.pos (ax T (Lw.pinP l ts bs j b).1)/\ae L.pos (Lw.pinP l T bs' j b).2=ae L.pos (ax T (Lw.pinP l ts bs j b).2):=by
 unfold Lw.pinP;split
 ·exact L.pt l hb _
 ·exact L.pt l ha _
theorem Wv{l:Li}{bs bs':List Pq}{g:Gr}(h0:g.kind≠0->fI bs bs' ts.length (aj l g 0).a/\fI bs bs' ts.length (aj l g 0).b)(h1:g.kind≠0->fI bs bs' ts.length (aj l g 1).a/\fI bs bs' ts.length (aj l g 1).b)
  (hb:g.kind≠0->fI bs bs' ts.length (ay g 0)):ae L.pos (dQ l T bs' g)=ae L.pos (ax T (dQ l ts bs g)):=by
 unfold dQ
 by_cases k0:g.kind=0
 ·rw[aoz k0,aoz k0,L.q]
 ·rw[aoy k0,aoy k0];have p0:=L.pinP (l:=l) (ay g 0) (h0 k0).1 (h0 k0).2;have p1:=L.pinP (l:=l) (ay g 1) (h1 k0).1 (h1 k0).2
  have own:∀m,ae L.pos (a8 T (bs'.getD (ay g 0).toNat aN) m).1=ae L.pos (ax T (a8 ts (bs.getD (ay g 0).toNat aN) m).1)/\ae L.pos (a8 T (bs'.getD (ay g 0).toNat aN) m).2=ae L.pos (ax T (a8 ts (bs.getD (ay g 0).toNat aN) m).2):=by
   intro m;rw[(hb k0).1];exact L.at (hb k0).2 m
  have qa:=fun pt=>L.pt l (h1 k0).1 pt
  have qb:=fun pt=>L.pt l (h1 k0).2 pt
  by_cases k1:g.kind=1
  ·rw[aoz k1,aoz k1];unfold k9 crsE aO;dsimp only;simp only[L.sub,L.mul,bE,bm];rw[p0.1,p0.2,p1.1,p1.2,(own _).1,(own _).2]
  ·rw[aoy k1,aoy k1]
   by_cases k2:g.kind=2
   ·rw[aoz k2,aoz k2];unfold db dotE aO;dsimp only;simp only[L.sub,L.mul,L.add,bE,bm,di];rw[p0.1,p0.2,(own _).1,(own _).2,(qb _).1,(qb _).2,(qb _).1,(qb _).2]
   ·rw[aoy k2,aoy k2];unfold db dotE aO;dsimp only;simp only[L.sub,L.mul,L.add,bE,bm,di];rw[p0.1,p0.2,(qa _).1,(qa _).2,(qb _).1,(qb _).2,(qb _).1,(qb _).2]
theorem wI{l:Li}{bs bs':List Pq}{g:Gr}(p0:g.kind≠0->ae L.pos (Lw.pinP l T bs' (aj l g 0) (ay g 0)).1=ae L.pos (ax T (Lw.pinP l ts bs (aj l g 0) (ay g 0)).1)/\ae L.pos (Lw.pinP l T bs' (aj l g 0) (ay g 0)).2=ae L.pos (ax T (Lw.pinP l ts bs (aj l g 0) (ay g 0)).2))
  (p1:g.kind=1->ae L.pos (Lw.pinP l T bs' (aj l g 1) (ay g 1)).1=ae L.pos (ax T (Lw.pinP l ts bs (aj l g 1) (ay g 1)).1)/\ae L.pos (Lw.pinP l T bs' (aj l g 1) (ay g 1)).2=ae L.pos (ax T (Lw.pinP l ts bs (aj l g 1) (ay g 1)).2))
  (hb:g.kind=2->∀pt,ae L.pos (aq l T bs' (aj l g 1).b pt).1=ae L.pos (ax T (aq l ts bs (aj l g 1).b pt).1)/\ae L.pos (aq l T bs' (aj l g 1).b pt).2=ae L.pos (ax T (aq l ts bs (aj l g 1).b pt).2))
  (ha:g.kind≠0->g.kind≠1->g.kind≠2->∀pt,ae L.pos (aq l T bs' (aj l g 1).a pt).1=ae L.pos (ax T (aq l ts bs (aj l g 1).a pt).1)/\ae L.pos (aq l T bs' (aj l g 1).a pt).2=ae L.pos (ax T (aq l ts bs (aj l g 1).a pt).2)) :
  ae L.pos (mc l T bs' g)=ae L.pos (ax T (mc l ts bs g)):=by
 unfold mc
 by_cases k0:g.kind=0
 ·rw[aoz k0,aoz k0,L.q]
 ·rw[aoy k0,aoy k0];have p0:=p0 k0
  by_cases k1:g.kind=1
  ·rw[aoz k1,aoz k1];have p1:=p1 k1;unfold bC aC db dotE aO;dsimp only;simp only[L.sub,L.mul,L.add,L.q,bE,bm,di];rw[p0.1,p0.2,p1.1,p1.2]
  ·rw[aoy k1,aoy k1]
   by_cases k2:g.kind=2
   ·rw[aoz k2,aoz k2];have qb:=hb k2;unfold aW a9 kr db dotE k9 crsE aO;dsimp only;simp only[L.sub,L.mul,L.add,L.q,bE,bm,di];rw[p0.1,p0.2,(qb _).1,(qb _).2,(qb _).1,(qb _).2]
   ·rw[aoy k2,aoy k2];have qa:=ha k0 k1 k2;unfold db dotE aO;dsimp only;simp only[L.sub,L.mul,L.add,L.q,bE,bm,di];rw[p0.1,p0.2,(qa _).1,(qa _).2]
end
section
variable{R:Type}[CommRing R]
theorem aez(p1 p2 q1 q2 x y:R) :
  (((q1-p1)*(y-p2)-(q2-p2)*(x-p1))+((q1-p1)*(y-p2)-(q2-p2)*(x-p1)))*(((q1-p1)*(y-p2)-(q2-p2)*(x-p1))+((q1-p1)*(y-p2)-(q2-p2)*(x-p1))) =
  4*(((x-p1)*(x-p1)+(y-p2)*(y-p2))*((p1-q1)*(p1-q1)+(p2-q2)*(p2-q2)))
   - ((((x-p1)*(x-p1)+(y-p2)*(y-p2))+((p1-q1)*(p1-q1)+(p2-q2)*(p2-q2)))-((x-q1)*(x-q1)+(y-q2)*(y-q2)))
    * ((((x-p1)*(x-p1)+(y-p2)*(y-p2))+((p1-q1)*(p1-q1)+(p2-q2)*(p2-q2)))-((x-q1)*(x-q1)+(y-q2)*(y-q2))):=by grind
theorem Oe(a b u v:R):(a*u+b*v)*(a*u+b*v)=(a*a+b*b)*(u*u+v*v)-(a*v-b*u)*(a*v-b*u):=by grind
theorem Xp{p1 p2 q1 q2 c1 c2 x y:R}(h0:(q1-p1)*(y-p2)-(q2-p2)*(x-p1)=0) :
  ((q1-p1)*(x-c1)+(q2-p2)*(y-c2))*((q1-p1)*(x-c1)+(q2-p2)*(y-c2)) =
  ((q1-p1)*(q1-p1)+(q2-p2)*(q2-p2))*((x-c1)*(x-c1)+(y-c2)*(y-c2))-((q1-p1)*(c2-p2)-(q2-p2)*(c1-p1))*((q1-p1)*(c2-p2)-(q2-p2)*(c1-p1)):=by
 have e:(q1-p1)*(c2-p2)-(q2-p2)*(c1-p1)=-((q1-p1)*(y-c2)-(q2-p2)*(x-c1)):=by grind
 rw[Oe,e];generalize(q1-p1)*(y-c2)-(q2-p2)*(x-c1)=k;clear h0 e;grind
theorem SW{C S u v:R}(h:C*C+S*S=1):(C*u-S*v)*(C*u-S*v)+(S*u+C*v)*(S*u+C*v)=u*u+v*v:=by
 have e:(C*u-S*v)*(C*u-S*v)+(S*u+C*v)*(S*u+C*v)=(C*C+S*S)*(u*u+v*v):=by clear h;grind
 rw[e,h];grind
theorem aax{C S u v a b:R}(h:C*C+S*S=1):(C*u-S*v)*(S*a+C*b)-(S*u+C*v)*(C*a-S*b)=u*b-v*a:=by
 have e:(C*u-S*v)*(S*a+C*b)-(S*u+C*v)*(C*a-S*b)=(C*C+S*S)*(u*b-v*a):=by clear h;grind
 rw[e,h];grind
end
section
variable{T:LL}(hp:dj T){p:Pq}
include hp
theorem NQ(hc:CH T p):ae hp (dE T p.c)*ae hp (dE T p.c)+ae hp (dE T p.s)*ae hp (dE T p.s)=1:=by
 have h9:=(fV hp).2 hc;rw[bE,di,bm,bm,Oj]at h9;grind
theorem xm(m n:Rat×Rat):ae hp (a8 T p n).1-ae hp (a8 T p m).1=ae hp (dE T p.c)*ae hp (qE (n.1-m.1))-ae hp (dE T p.s)*ae hp (qE (n.2-m.2)) /\
  ae hp (a8 T p n).2-ae hp (a8 T p m).2=ae hp (dE T p.s)*ae hp (qE (n.1-m.1))+ae hp (dE T p.c)*ae hp (qE (n.2-m.2)):=by
 unfold a8;dsimp only;rw[pJ,pJ];simp only[di,bE,bm];constructor <;> grind
theorem ve(hc:CH T p)(m n:Rat×Rat):(ae hp (a8 T p n).1-ae hp (a8 T p m).1)*(ae hp (a8 T p n).1-ae hp (a8 T p m).1)+(ae hp (a8 T p n).2-ae hp (a8 T p m).2)*(ae hp (a8 T p n).2-ae hp (a8 T p m).2)=ae hp (qE (bq n m)):=by
 obtain⟨e1,e2⟩:=xm hp (p:=p) m n;rw[e1,e2,SW (NQ hp hc)];unfold bq cf bS;dsimp only;rw[rc,jS,jS,di,bm,bm]
theorem WE(hc:CH T p)(m n k:Rat×Rat):(ae hp (a8 T p n).1-ae hp (a8 T p m).1)*(ae hp (a8 T p m).2-ae hp (a8 T p k).2)-(ae hp (a8 T p n).2-ae hp (a8 T p m).2)*(ae hp (a8 T p m).1-ae hp (a8 T p k).1)=ae hp (qE (vc (bS n m) (bS m k))):=by
 obtain⟨e1,e2⟩:=xm hp (p:=p) m n;obtain⟨e3,e4⟩:=xm hp (p:=p) k m
 have en:(qE (vc (bS n m) (bS m k)):Et T)=qE (n.1-m.1)*qE (m.2-k.2)-qE (n.2-m.2)*qE (m.1-k.1):=by
  rw[<- jS,<- jS,<- pJ];rfl
 rw[e1,e2,e3,e4,aax (NQ hp hc),en,bE,bm,bm]
end
theorem lT{l:Li}{T:LL}(hp:dj T){bs:List Pq}{j:Jt}{i:Int}(hk:j.kind=0)(tie:j.a=i\/j.b=i)(h:JH l T bs j) :
  ae hp (a8 T (bs.getD i.toNat aN) (ak l j i)).1=ae hp (pinP l T bs j i).1/\ae hp (a8 T (bs.getD i.toNat aN) (ak l j i)).2=ae hp (pinP l T bs j i).2:=by
 have e:=IR hp hk h;unfold ak pinP
 by_cases e1:j.a=i
 ·rw[aoz e1,aoz e1];unfold aq at e ⊢;rw[e1]at e;exact e
 ·have e2:j.b=i:=tie.resolve_left e1;rw[aoy e1,aoy e1];unfold aq at e ⊢;rw[e2]at e;exact⟨e.1.symm,e.2.symm⟩
theorem jR{l:Li}{kd z i:Int}{bs:List Int}{j:Jt}(t:TieO l kd bs z i j):j.a=i\/j.b=i:=by
 rcases t.tie with⟨e,_⟩ |⟨e,_⟩
 ·exact .inl e
 ·exact .inr e
section
variable{l:Li}{T:LL}{bs:List Pq}{g:Gr}
theorem Co(h:g.kind=1):dQ l T bs g=k9 (aO (pinP l T bs (aj l g 1) (ay g 1)) (pinP l T bs (aj l g 0) (ay g 0))) (aO (a8 T (bs.getD (ay g 0).toNat aN) (ak l (aj l g 2) (ay g 0))) (pinP l T bs (aj l g 0) (ay g 0))):=by
 unfold dQ;rw[aoy oz,aoz h]
theorem Br(h:g.kind=2):dQ l T bs g=db (aO (aq l T bs (aj l g 1).b (aj l g 1).to) (aq l T bs (aj l g 1).b (aj l g 1).on)) (aO (a8 T (bs.getD (ay g 0).toNat aN) (aE l (ay g 0) (aj l g 1).point)) (pinP l T bs (aj l g 0) (ay g 0))):=by
 unfold dQ;rw[aoy oz,aoy oz,aoz h]
theorem CV(h:g.kind=3):dQ l T bs g=db (aO (aq l T bs (aj l g 1).b (aj l g 1).to) (aq l T bs (aj l g 1).b (aj l g 1).on)) (aO (aq l T bs (aj l g 1).a (aj l g 1).point) (pinP l T bs (aj l g 0) (ay g 0))):=by
 unfold dQ;rw[aoy oz,aoy oz,aoy oz]
theorem N6(h:g.kind=1):mc l T bs g=bC (pinP l T bs (aj l g 0) (ay g 0)) (qE (bq (ak l (aj l g 2) (ay g 0)) (ak l (aj l g 0) (ay g 0)))) (pinP l T bs (aj l g 1) (ay g 1)) (qE (bq (ak l (aj l g 2) (ay g 1)) (ak l (aj l g 1) (ay g 1)))):=by
 unfold mc;rw[aoy oz,aoz h]
theorem IC(h:g.kind=2):mc l T bs g=aW (aq l T bs (aj l g 1).b (aj l g 1).on) (aq l T bs (aj l g 1).b (aj l g 1).to) (pinP l T bs (aj l g 0) (ay g 0)) (qE (bq (aE l (ay g 0) (aj l g 1).point) (ak l (aj l g 0) (ay g 0)))):=by
 unfold mc;rw[aoy oz,aoy oz,aoz h]
theorem NA(h:g.kind=3):mc l T bs g=qE (jY l (ay g 0) (aj l g 1))*db (aO (aq l T bs (aj l g 1).a (aj l g 1).point) (pinP l T bs (aj l g 0) (ay g 0))) (aO (aq l T bs (aj l g 1).a (aj l g 1).point) (pinP l T bs (aj l g 0) (ay g 0)))
  - qE (cB l (ay g 0) (aj l g 0) (aj l g 1))*qE (cB l (ay g 0) (aj l g 0) (aj l g 1)):=by
 unfold mc;rw[aoy oz,aoy oz,aoy oz]
end
section
variable{l:Li}{T:LL}(hp:dj T){bs:List Pq}
include hp
theorem C6{i k z0 z1:Int}{j0 j1 j2:Jt}(t0:TieO l 0 [i,k] z0 i j0)(t1:TieO l 0 [i,k] z1 k j1)(ne:i≠k)(kd:j2.kind=0)(tie:(j2.a=i/\j2.b=k)\/(j2.b=i/\j2.a=k))
  (h0:JH l T bs j0) (h1:JH l T bs j1) (h2:JH l T bs j2) (c0:CH T (bs.getD i.toNat aN)) (c1:CH T (bs.getD k.toNat aN)) {x:P2 T} (hx:x=a8 T (bs.getD i.toNat aN) (ak l j2 i)) :
  (ae hp x.1=ae hp (a8 T (bs.getD k.toNat aN) (ak l j2 k)).1/\ae hp x.2=ae hp (a8 T (bs.getD k.toNat aN) (ak l j2 k)).2) /\
  ((ae hp x.1-ae hp (pinP l T bs j0 i).1)*(ae hp x.1-ae hp (pinP l T bs j0 i).1)+(ae hp x.2-ae hp (pinP l T bs j0 i).2)*(ae hp x.2-ae hp (pinP l T bs j0 i).2)=ae hp (qE (bq (ak l j2 i) (ak l j0 i)))) /\
  ((ae hp x.1-ae hp (pinP l T bs j1 k).1)*(ae hp x.1-ae hp (pinP l T bs j1 k).1)+(ae hp x.2-ae hp (pinP l T bs j1 k).2)*(ae hp x.2-ae hp (pinP l T bs j1 k).2)=ae hp (qE (bq (ak l j2 k) (ak l j1 k)))):=by
 have o0:=lT hp t0.kd (jR t0) h0;have o1:=lT hp t1.kd (jR t1) h1
 have e:ae hp x.1=ae hp (a8 T (bs.getD k.toNat aN) (ak l j2 k)).1/\ae hp x.2=ae hp (a8 T (bs.getD k.toNat aN) (ak l j2 k)).2:=by
  have e:=IR hp kd h2;unfold aq at e;rcases tie with⟨ea,eb⟩ |⟨eb,ea⟩
  ·have q0:ak l j2 i=aE l i j2.point:=by unfold ak; rw[aoz ea]
   have q1:ak l j2 k=aE l k j2.on:=by unfold ak;rw[aoy oz]
   rw[ea,eb]at e;rw[hx,q0,q1];exact e
  ·have q0:ak l j2 i=aE l i j2.on:=by unfold ak; rw[aoy oz]
   have q1:ak l j2 k=aE l k j2.point:=by unfold ak;rw[aoz ea]
   rw[ea,eb]at e;rw[hx,q0,q1];exact⟨e.1.symm,e.2.symm⟩
 have d0:=ve hp c0 (ak l j0 i) (ak l j2 i);have d1:=ve hp c1 (ak l j1 k) (ak l j2 k);rw[<- hx,o0.1,o0.2]at d0;rw[<- e.1,<- e.2,o1.1,o1.2]at d1;exact⟨e,d0,d1⟩
theorem EP{i z0 z1:Int}{j0 j:Jt}(t0:TieO l 0 [i] z0 i j0)(t1:TieO l 1 [i] z1 i j)(ha:j.a=i)(h0:JH l T bs j0)(h1:JH l T bs j)(c0:CH T (bs.getD i.toNat aN)){x:P2 T}(hx:x=a8 T (bs.getD i.toNat aN) (aE l i j.point)) :
  ((ae hp (aq l T bs j.b j.to).1-ae hp (aq l T bs j.b j.on).1)*(ae hp x.2-ae hp (aq l T bs j.b j.on).2)-(ae hp (aq l T bs j.b j.to).2-ae hp (aq l T bs j.b j.on).2)*(ae hp x.1-ae hp (aq l T bs j.b j.on).1)=0) /\
  ((ae hp x.1-ae hp (pinP l T bs j0 i).1)*(ae hp x.1-ae hp (pinP l T bs j0 i).1)+(ae hp x.2-ae hp (pinP l T bs j0 i).2)*(ae hp x.2-ae hp (pinP l T bs j0 i).2)=ae hp (qE (bq (aE l i j.point) (ak l j0 i)))):=by
 have o0:=lT hp t0.kd (jR t0) h0;have s:=P7 hp (by rw[t1.kd];decide) h1;have ep:aq l T bs j.a j.point=x:=by rw[hx,ha];rfl
 rw[ep]at s;have d0:=ve hp c0 (ak l j0 i) (aE l i j.point);rw[<- hx,o0.1,o0.2]at d0;exact⟨s,d0⟩
theorem Hi{i z0 z1:Int}{j0 j:Jt}(t0:TieO l 0 [i] z0 i j0)(t1:TieO l 1 [i] z1 i j)(ha:j.a≠i)(h0:JH l T bs j0)(h1:JH l T bs j)(c0:CH T (bs.getD i.toNat aN)){w:Zq hp×Zq hp}(hw:w=(ae hp (aq l T bs j.b j.to).1-ae hp (aq l T bs j.b j.on).1,ae hp (aq l T bs j.b j.to).2-ae hp (aq l T bs j.b j.on).2)) :
  (w.1*w.1+w.2*w.2=ae hp (qE (jY l i j))) /\
  (w.1*(ae hp (aq l T bs j.a j.point).2-ae hp (pinP l T bs j0 i).2)-w.2*(ae hp (aq l T bs j.a j.point).1-ae hp (pinP l T bs j0 i).1)=ae hp (qE (cB l i j0 j))):=by
 have tb:j.b=i:=(jR t1).resolve_left ha;have o0:=lT hp t0.kd (jR t0) h0;have s:=P7 hp (by rw[t1.kd];decide) h1;have eto:aq l T bs j.b j.to=a8 T (bs.getD i.toNat aN) (aE l i j.to):=by unfold aq;rw[tb]
 have eon:aq l T bs j.b j.on=a8 T (bs.getD i.toNat aN) (aE l i j.on):=by unfold aq;rw[tb]
 have d0:=ve hp c0 (aE l i j.on) (aE l i j.to);have r0:=WE hp c0 (aE l i j.on) (aE l i j.to) (ak l j0 i);rw[o0.1,o0.2]at r0;rw[<- eto,<- eon]at d0 r0;refine⟨by rw[hw];exact d0,?_⟩;rw[hw];dsimp only;have e:ae hp (qE (cB l i j0 j))=ae hp (qE (vc (bS (aE l i j.to) (aE l i j.on)) (bS (aE l i j.on) (ak l j0 i)))):=rfl;rw[e,<- r0];clear e r0 d0
 revert s
 generalize ae hp (aq l T bs j.b j.to).1=a1;generalize ae hp (aq l T bs j.b j.to).2=a2;generalize ae hp (aq l T bs j.b j.on).1=b1;generalize ae hp (aq l T bs j.b j.on).2=b2;generalize ae hp (aq l T bs j.a j.point).1=u1;generalize ae hp (aq l T bs j.a j.point).2=u2;generalize ae hp (pinP l T bs j0 i).1=v1;generalize ae hp (pinP l T bs j0 i).2=v2;clear eto eon o0;intro s;grind
theorem G8{g:Gr}(hg:DyK l g)(js:∀z∈g.jo,JH l T bs (l.jo.getD z.toNat default))(cs:∀b∈g.bo,CH T (bs.getD b.toNat aN)):ae hp (q8 g.kind (dQ l T bs g))=ae hp (mc l T bs g):=by
 cases hg with
 | @drv b z d j dr t d0 hd hb =>
  show ae hp ((qE 1:Et T)*qE 1)=ae hp (qE 1);have q1:(qE 1:Et T)=1:=rfl;rw[q1,show(1:Et T)*1=1 by grind]
 | @rrr i k z0 z1 z2 j0 j1 j2 ne t0 t1 h0 h2 kd tie =>
  have e0:aj l ⟨1,[i,k],[z0,z1,z2],0⟩ 0=j0:=aw t0.hj;have e1:aj l ⟨1,[i,k],[z0,z1,z2],0⟩ 1=j1:=aw t1.hj;have e2:aj l ⟨1,[i,k],[z0,z1,z2],0⟩ 2=j2:=aw h2;have b0:ay ⟨1,[i,k],[z0,z1,z2],0⟩ 0=i:=rfl;have b1:ay ⟨1,[i,k],[z0,z1,z2],0⟩ 1=k:=rfl;have y0:=js z0 (by simp);have y1:=js z1 (by simp);have y2:=js z2 (by simp);rw[aw t0.hj]at y0;rw[aw t1.hj]at y1;rw[aw h2]at y2;obtain⟨_,d0,d1⟩:=C6 hp t0 t1 ne kd tie y0 y1 y2 (cs i (by simp)) (cs k (by simp)) rfl;show ae hp ((dQ l T bs _+dQ l T bs _)*(dQ l T bs _+dQ l T bs _))=_;rw[Co rfl,N6 rfl,e0,e1,e2,b0,b1,MF (uw hp) _ _ _ _ (r6 (uw hp) _ _),<- d0,<- d1];unfold k9 crsE aO;dsimp only;simp only[bm,di,bE];exact aez _ _ _ _ _ _
 | @pr i z0 z1 j0 j1 t0 t1 ha =>
  have e0:aj l ⟨2,[i],[z0,z1],0⟩ 0=j0:=aw t0.hj;have e1:aj l ⟨2,[i],[z0,z1],0⟩ 1=j1:=aw t1.hj;have b0:ay ⟨2,[i],[z0,z1],0⟩ 0=i:=rfl;have y0:=js z0 (by simp);have y1:=js z1 (by simp);rw[aw t0.hj]at y0;rw[aw t1.hj]at y1;obtain⟨s,d0⟩:=EP hp t0 t1 ha y0 y1 (cs i (by simp)) rfl;show ae hp (dQ l T bs _*dQ l T bs _)=_;rw[Br rfl,IC rfl,e0,e1,b0];unfold aW a9 kr db dotE k9 crsE aO;dsimp only;simp only[bm,di,bE];rw[<- d0];exact Xp s
 | @rp i z0 z1 j0 j1 t0 t1 ha =>
  have e0:aj l ⟨3,[i],[z0,z1],0⟩ 0=j0:=aw t0.hj;have e1:aj l ⟨3,[i],[z0,z1],0⟩ 1=j1:=aw t1.hj;have b0:ay ⟨3,[i],[z0,z1],0⟩ 0=i:=rfl;have y0:=js z0 (by simp);have y1:=js z1 (by simp);rw[aw t0.hj]at y0;rw[aw t1.hj]at y1;obtain⟨d0,d1⟩:=Hi hp t0 t1 ha y0 y1 (cs i (by simp)) rfl;show ae hp (dQ l T bs _*dQ l T bs _)=_;rw[CV rfl,NA rfl,e0,e1,b0];unfold db dotE aO;dsimp only at d0 d1 ⊢;simp only[bm,di,bE];rw[<- d0,<- d1];exact Oe _ _ _ _
end
theorem Px{P:apb}{f:FuncId}{sz:Nat}{r:AV}{H H':Hp}(h:∀(a:Option Addr)(cap:Nat),Con P f [.v (.slice a 0 cap)] H r H'):Con P f [.lst sz []] H r H' :=
 ⟨(h none 0).ok,fun ext m w vs he hr hn hv=>by
  have ot:vs.size=1:=hn;have h0:=hv 0 vs[0] (.lst sz []) (by simp[ot]) rfl
  have hy:∃a cap,vs[0]=.slice a 0 cap:=by
   generalize vs[0]=y at h0;cases h0 with
   |lst0 a cap=>exact⟨_,_,rfl⟩
   |lst u hb hc hl hs h1 hu bA=>exact⟨_,_,rfl⟩
  obtain⟨a,cap,hy⟩:=hy;refine(h a cap).ret ext m w vs he hr hn (fun j v x j7 hx=>?_)
  match j,hx with
  |0,hx =>
   cases hx;have:v=.slice a 0 cap:=by rw[<- hy];have:=Array.getElem?_eq_some_iff.1 j7;exact this.2.symm
   subst this;exact .v _⟩
theorem ahz(e:AV)(es:List AV)(hc:∀x∈e::es,x.cells.length=1)(hl:(e::es).length<=1000):Con prog 277 [.lst 1 (e::es)] [] (.ms 901 1 0 (e::es).length) [pP 901 (.row 1 (e::es))]:=by
 refine gF func277 (fun k z h=>by cases h) ?_;refine gs (Jd (.tmp rfl) (by kernel_rfl) rfl) ?_;refine gf ?_;refine gs (lX T46 rfl T3 rfl rfl rfl) ?_;refine gs (cZ (.tmp rfl) rfl rfl (.tmp rfl) T46 rfl T3 rfl rfl (by simp only[];omega) rfl rfl) ?_ (77777,0);refine gW (Wk.of (sl:=[pP 2 (.ms 7 1 0 (e::es).length)]) (hp:=[pP 7 (.row 1 (e::es))]) (.cons rfl (.of (ao6 (AV.ms 7 1 0) (akv _))) .nil) (.k .nil)) ?_;refine gR ?_;exact aD.own1 rfl rfl rfl
theorem adj(a:Option Addr)(cap:Nat):Con prog 277 [.v (.slice a 0 cap)] [] (.ms 901 1 0 0) [pP 901 (.row 1 [])]:=by
 refine gF func277 (fun k z h=>by cases h) ?_;refine gs (LA (.tmp rfl) (by kernel_rfl) rfl) ?_;refine gC (fun y=>?_) (fun y=>?_) (st1:=(2,0)) (st2:=(77777,0))
 ·refine gW ((Wk.virt 901 1 rfl).trans<|Wk.o (sl:=[]) (hp:=[pP 901 (.row 1 [])])) ?_;refine gR ?_;exact(aD.keep (bH rfl)).sub (Sub.nM _ _ _)
 refine gW (Wk.of (sl:=[pP 0 (.lst 1 [])]) (hp:=[]) (.cons rfl (Sub.nil _ _ _) .nil) .nil) ?_;refine gs (lX T46 rfl T3 rfl rfl rfl) ?_;refine gs (cZ (.tmp rfl) rfl rfl (.tmp rfl) T46 rfl T3 rfl rfl (by simp) rfl rfl) ?_ (77777,0);refine gW (Wk.o (sl:=[pP 2 (.ms 7 1 0 0)]) (hp:=[pP 7 (.row 1 [])])) ?_;refine gR ?_;exact aD.own1 rfl rfl rfl
theorem V0(e:AV)(es:List AV)(hc:∀x∈e::es,x.cells.length=4)(hl:(e::es).length<=1000):Con prog 283 [.lst 4 (e::es)] [] (.ms 900 4 0 (e::es).length) [pP 900 (.row 4 (e::es))]:=by
 refine gF func283 (fun k z h=>by cases h) ?_;refine gs (Jd (.tmp rfl) (by kernel_rfl) rfl) ?_;refine gf ?_;refine gs (lX T45 rfl T55 rfl rfl rfl) ?_;refine gs (cZ (.tmp rfl) rfl rfl (.tmp rfl) T45 rfl T55 rfl rfl (by simp only[];omega) rfl rfl) ?_ (77777,0);refine gW (Wk.of (sl:=[pP 2 (.ms 7 4 0 (e::es).length)]) (hp:=[pP 7 (.row 4 (e::es))]) (.cons rfl (.of (ao6 (AV.ms 7 4 0) (akv _))) .nil) (.k .nil)) ?_;refine gR ?_;exact aD.own1 rfl rfl rfl
theorem ZY(a:Option Addr)(cap:Nat):Con prog 283 [.v (.slice a 0 cap)] [] (.ms 900 4 0 0) [pP 900 (.row 4 [])]:=by
 refine gF func283 (fun k z h=>by cases h) ?_;refine gs (LA (.tmp rfl) (by kernel_rfl) rfl) ?_;refine gC (fun y=>?_) (fun y=>?_) (st1:=(2,0)) (st2:=(77777,0))
 ·refine gW ((Wk.virt 900 4 rfl).trans<|Wk.o (sl:=[]) (hp:=[pP 900 (.row 4 [])])) ?_;refine gR ?_;exact(aD.keep (bH rfl)).sub (Sub.nM _ _ _)
 refine gW (Wk.of (sl:=[pP 0 (.lst 4 [])]) (hp:=[]) (.cons rfl (Sub.nil _ _ _) .nil) .nil) ?_;refine gs (lX T45 rfl T55 rfl rfl rfl) ?_;refine gs (cZ (.tmp rfl) rfl rfl (.tmp rfl) T45 rfl T55 rfl rfl (by simp) rfl rfl) ?_ (77777,0);refine gW (Wk.o (sl:=[pP 2 (.ms 7 4 0 0)]) (hp:=[pP 7 (.row 4 [])])) ?_;refine gR ?_;exact aD.own1 rfl rfl rfl
theorem Nv(es:List AV)(hc:∀x∈es,x.cells.length=1)(hl:es.length<=1000):Con prog 277 [.lst 1 es] [] (.ms 901 1 0 es.length) [pP 901 (.row 1 es)]:=by
 cases es with
 |nil=>exact Px adj
 |cons e es=>exact ahz e es hc hl
theorem adb(es:List AV)(hc:∀x∈es,x.cells.length=4)(hl:es.length<=1000):Con prog 283 [.lst 4 es] [] (.ms 900 4 0 es.length) [pP 900 (.row 4 es)]:=by
 cases es with
 |nil=>exact Px ZY
 |cons e es=>exact V0 e es hc hl
theorem Wf(es:List AV)(hc:∀x∈es,x.cells.length=1)(hl:es.length<=1000):FP 277 [.lst 1 es] (.lst 1 es):=by
 have h:=Con.freeze oz (Nv es hc hl)
 rwa [aov,an3]at h
theorem LR(ms:List Int):∀x∈ms.map i64,x.cells.length=1:=fun x hx=>by obtain⟨m,_,rfl⟩:=al0.1 hx;rfl
theorem agy(bs:List Pq):∀x∈bs.map Pq.av,x.cells.length=4:=fun x hx=>by obtain⟨m,_,rfl⟩:=al0.1 hx;rfl
theorem zR{n e:Nat}{x:List Rat}(h:Nm n e x)(he:e<=100000000000):FP 278 [nA x] (nA x):=by
 have bK:=h.nl.len5 h.five;have mw:∀q∈x,Qs q:=fun q hq=>h.cb.qs oz hq
 refine am func278 ?_;refine gl ?_;refine gW (Wk.virt 901 3 rfl) ?_;refine aY [6,7] [] (fun(j:Nat)=>[pP 3 (.ms 901 3 0 j),pP 8 (i64 j)]) (fun j=>[pP 901 (.row 3 ((x.take j).map qA))]) (fun j=>j<=x.length) (fun j=>x.length-j) 0 (ans _) ?_ (h1:=(.cons rfl (Sub.nM _ _ _) (.k .nil)));rintro j hj K1 J1;refine gC (fun z=>?_) (fun z=>?_) (st2:=(7,0))
 ·have fC:=bf z;obtain⟨q,hq⟩:=aB fC;have gL:=tW (rt q) (rt 0) (mw q (ank hq)).ok Qs.zero.ok;rw[yv,b7]at gL;refine gi (aL hq) ?_;refine gc (Con.sA (.cons (.refl _) (.cons kA .nil)) gL) ?_;refine gs (cZ (.tmp rfl) rfl (by rw[anl,an6];omega) (.tmp rfl) T53 rfl T106 rfl rfl (by simp only[an0,aoa];omega) rfl rfl) ?_ (6,0);refine gW (Wk.of (sl:=[pP 6 (nA x),pP 7 (i64 x.length),pP 8 (i64 j),pP 3 (.ms 17 3 0 (j+1))]) (hp:=[pP 17 (.row 3 ((x.take (j+1)).map qA))]) bg (.cons rfl (.of (by rw[dR hq,aoc];rfl)) .nil)) ?_ (6,0);refine gW (Wk.rk (k:=17) (d:=901) rfl rfl) ?_;refine ga aU ?_;exact aS J1 (j+1) fC
 have fC:=bu hj z;subst fC;refine gW ((Wk.freeze (k:=901) rfl).trans<|Wk.of (sl:=[pP 3 (nA x)]) (hp:=[]) (.cons rfl (.of (by rw[cz (by simp)];simp[nA])) .nil) .nil) ?_;refine ai ?_;rfl
theorem aaq{a:Aq}{n e:Nat}(h5:n<=5)(ht:∀x∈a.ts,Nm n e x)(hb:∀p∈a.bs,Pq.ok n e p)(he:e<=100000000000)(l1:a.ts.length<=100)(l2:a.bs.length<=100)(l3:a.ms.length<=100):FP 152 [a.av] a.av:=by
 refine am func152 ?_;refine gc (Wf _ (LR _) (by rw[anl];omega)) ?_;refine gl ?_;refine gW (Wk.virt 900 1 rfl) ?_;refine aY [1,2,3,14,15] [1,2] (fun(i:Nat)=>[pP 16 (i64 i)]) (fun i=>[pP 3 (.box [.ms 900 1 0 i,nS,.lst 1 (a.ms.map i64)]),pP 900 (.row 1 ((a.ts.take i).map nA))]) (fun i=>i<=a.ts.length) (fun i=>a.ts.length-i) 0 (ans _) ?_ (h2:=(.cons rfl (BlkSub.bL (.cons (.nM _ _ _) (.cons (.refl _) (.cons (.refl _) .nil))) rfl) (.k .nil)));rintro i hi K1 J1;refine gC (fun z=>?_) (fun z=>?_) (st2:=(7,0))
 ·have ah:=bf z;obtain⟨d,hd⟩:=aB ah;refine gi (aL hd) ?_;refine gc (zR (ht d (ank hd)) he) ?_;refine gs (cZ (.tmp rfl) rfl (by rw[anl,an6]; omega) (.tmp rfl) T42 rfl T53 rfl rfl (by simp only [an0,aoa]; omega) rfl rfl) ?_;refine gD ?_ (6,0);refine gW (Wk.of (sl:=[pP 1 (.ptr 1 0),pP 2 (.ptr 2 0),pP 3 (.ptr 3 0),pP 14 (.lst 1 (a.ts.map nA)),pP 15 (i64 a.ts.length),pP 16 (i64 i)]) (hp:=[pP 1 (.box a.cs),pP 2 (.box [nS,nS,nS]),pP 3 (.box [.ms 26 1 0 (i+1),nS,.lst 1 (a.ms.map i64)]),pP 26 (.row 1 ((a.ts.take (i+1)).map nA))]) bg (.k (.k (.k (.cons rfl (.of (by rw[dR hd,aoc]; rfl)) .nil))))) ?_ (6,0)
  refine gW (Wk.rk (k:=26) (d:=900) rfl rfl) ?_;refine ga aU ?_;exact aS J1 (i+1) ah
 have ah:=bu hi z;subst ah;refine gW ((Wk.freeze (k:=900) rfl).trans<|Wk.of (sl:=[pP 1 (.ptr 1 0),pP 2 (.ptr 2 0),pP 3 (.ptr 3 0)]) (hp:=[pP 1 (.box a.cs),pP 2 (.box [nS,nS,nS]),pP 3 (.box [.lst 1 (a.ts.map nA),nS,.lst 1 (a.ms.map i64)])]) bg (.k (.k (.cons rfl (BlkSub.bL (.cons (.of (by rw[cz (by simp)];simp)) (.cons (.refl _) (.cons (.refl _) .nil))) rfl) .nil)))) ?_;refine gl ?_;refine gW (Wk.virt 902 4 rfl) ?_;refine aY [1,2,3,31,32] [1,2] (fun(i:Nat)=>[pP 33 (i64 i)]) (fun i=>[pP 3 (.box [.lst 1 (a.ts.map nA),.ms 902 4 0 i,.lst 1 (a.ms.map i64)]),pP 902 (.row 4 ((a.bs.take i).map Pq.av))]) (fun i=>i<=a.bs.length) (fun i=>a.bs.length-i) 0 (ans _) ?_ (h2:=(.cons rfl (BlkSub.bL (.cons (.refl _) (.cons (.nM _ _ _) (.cons (.refl _) .nil))) rfl) (.k .nil)));rintro i hi K2 J2;refine gC (fun z=>?_) (fun z=>?_) (st2:=(12,0))
 ·have ah:=bf z;obtain⟨p,hp⟩:=aB ah;have ok:=hb p (ank hp);refine gi (aL hp) ?_;refine gc (zR ok.c he) ?_;refine gc (zR ok.s he) ?_;refine gc (zR ok.x he) ?_;refine gc (zR ok.y he) ?_;refine gs (cZ (.tmp rfl) rfl (by rw[anl,an6]; omega) (.tmp rfl) T45 rfl T55 rfl rfl (by simp only [an0,aoa]; omega) rfl rfl) ?_;refine gD ?_ (11,0);refine gW (Wk.of (sl:=[pP 1 (.ptr 1 0),pP 2 (.ptr 2 0),pP 3 (.ptr 3 0),pP 31 (.lst 4 (a.bs.map Pq.av)),pP 32 (i64 a.bs.length),pP 33 (i64 i)]) (hp:=[pP 1 (.box a.cs),pP 2 (.box [nS,nS,nS]),pP 3 (.box [.lst 1 (a.ts.map nA),.ms 53 4 0 (i+1),.lst 1 (a.ms.map i64)]),pP 53 (.row 4 ((a.bs.take (i+1)).map Pq.av))]) bg (.k (.k (.k (.cons rfl (.of (by rw[dR hp,aoc]; rfl)) .nil))))) ?_ (11,0)
  refine gW (Wk.rk (k:=53) (d:=902) rfl rfl) ?_;refine ga aU ?_;exact aS J2 (i+1) ah
 have ah:=bu hi z;subst ah;refine gW ((Wk.freeze (k:=902) rfl).trans<|Wk.of (sl:=[pP 2 (.ptr 2 0),pP 3 (.ptr 3 0)]) (hp:=[pP 2 (.box [nS,nS,nS]),pP 3 (.box a.cs)]) bg (.k (.cons rfl (BlkSub.bL (.cons (.refl _) (.cons (.of (by rw[cz (by simp)];simp)) (.cons (.refl _) .nil))) rfl) .nil))) ?_;refine ai ?_;rfl
theorem XI{a:Aq}{g:Gr}{s:Sv}(hb:∀b∈g.bo,0<=b/\b<a.bs.length)(hl:s.ps.length=g.bo.length)(l1:a.bs.length<=100)(l2:a.ms.length<=100)(l3:g.bo.length<=100):FP 155 [a.av,g.av,s.av] (a.nxt g s).av:=by
 refine am func155 ?_;refine gt (aR (adb _ (agy _) (by rw[anl];omega)) (dJ rfl) aT rfl rfl) ?_;refine gt (aR (Nv _ (LR _) (by rw[anl];omega)) (dJ rfl) aT rfl rfl) ?_;refine gs (cZ (.tmp rfl) rfl rfl (.tmp rfl) T46 rfl T3 rfl rfl (by simp only[anl,an0,aoa];omega) rfl rfl) ?_;refine gD ?_ (2,0);refine gW ((Wk.freeze (k:=21) rfl).trans<|Wk.of (sl:=[pP 3 (.ptr 3 0),pP 4 (.ptr 4 0),pP 5 (.ptr 5 0),pP 6 (.ptr 6 0),pP 7 (.ptr 7 0)]) (hp:=[pP 3 (.box a.cs),pP 4 (.box g.av.cells),pP 5 (.box s.av.cells),pP 6 (.box [nS,nS,nS]),pP 7 (.box [.lst 1 (s.ts.map nA),.ms 900 4 0 a.bs.length,.lst 1 ((a.ms++[s.mode]).map i64)]),pP 900 (.row 4 ((bi a.bs (g.bo.take 0) (s.ps.take 0)).map Pq.av))]) bg (.k (.k (.k (.k (.cons rfl (BlkSub.bL (.cons (.refl _) (.cons (.of (ao6 (AV.ms 900 4 0) (anl _))) (.cons (.of (by rw[cz (by simp)];simp)) .nil))) rfl) (.k .nil))))))) ?_
 refine gl ?_;refine aY [3,4,5,6,7,24,25] [3,4,5,6,7] (fun(i:Nat)=>[pP 26 (i64 i)]) (fun i=>[pP 900 (.row 4 ((bi a.bs (g.bo.take i) (s.ps.take i)).map Pq.av))]) (fun i=>i<=g.bo.length) (fun i=>g.bo.length-i) 0 (ans _) ?_;rintro i hi K1 J1;refine gC (fun z=>?_) (fun z=>?_) (st2:=(7,0))
 ·have ah:=bf z;obtain⟨b,Iu⟩:=aB ah;obtain⟨p,hp⟩:=aB (l:=s.ps) (i:=i) oz;obtain⟨ow,cw⟩:=hb b (ank Iu);have kH:=BC a.bs (g.bo.take i) (s.ps.take i);obtain⟨o,ho⟩:=aB (l:=bi a.bs (g.bo.take i) (s.ps.take i)) (i:=b.toNat) oz;refine gi (aL Iu) ?_;refine gi (aL hp) ?_;refine gs (qY (.tmp rfl) (.tmp rfl) T45 rfl T55 rfl oz oz rfl) ?_;refine gs (eY (.tmp rfl) rfl (by rw[akv,anr,ho];rfl) rfl (.tmp rfl) rfl rfl T55 rfl rfl) ?_;refine gD ?_;refine ga aU ?_;exact aS J1 (i+1) ah (hw:=Wk.of bg (.cons rfl (.of (by rw[ae3 Iu hp,aou,akv];rfl)) (.k (.k (.k (.k (.k .nil)))))))
 have ah:=bu hi z;subst ah;refine gW ((Wk.freeze (k:=900) rfl).trans<|Wk.of (sl:=[pP 6 (.ptr 6 0),pP 7 (.ptr 7 0)]) (hp:=[pP 6 (.box [nS,nS,nS]),pP 7 (.box (a.nxt g s).cs)]) bg (.k (.cons rfl (BlkSub.bL (.cons (.refl _) (.cons (.of (by rw[cz (by rw[anl,BC])];rw[an3,an1 oz];rfl)) (.cons (.refl _) .nil))) rfl) .nil))) ?_;refine ai ?_;rfl
abbrev ku(l:Li)(xs:List Tn)(G:List Gr)(fo:FuncId)(caps:List AV)(sg:Bool)(o:AV):List AV:=l.av.cells++[.lst 4 (xs.map Tn.av),.lst 4 (G.map Gr.av),.cl fo [] caps,bl sg,o]
abbrev iM(l:Li)(xs:List Tn)(G:List Gr)(fo:FuncId)(caps:List AV)(sg:Bool)(k:Nat)(es:List AV):Hp :=
  [pP 1000 (.box (ku l xs G fo caps sg (.ms k 3 0 es.length))),(k,some (.row 3 es))]
theorem AF{k k0:Nat}{x y:Option Blk}{z:Blk}(h0:1000<=k0)(h:lk [(1000,x),(k0,y)] k=some z):1000<=k:=by
 rw[a5]at h;split at h
 ·omega
 ·rw[a5]at h;split at h
  ·omega
  ·cases h
theorem Vn{l:Li}{xs:List Tn}{G:List Gr}{fo:FuncId}{caps:List AV}{sg:Bool}{es:List AV}{g:Gr}(hd:g.kind=0->0<=g.driver/\g.driver<xs.length)(hl:xs.length<=100) :
  Con prog 154 [.ptr 1000 0,g.av] (iM l xs G fo caps sg 1001 es) (cD g xs).av (iM l xs G fo caps sg 1001 es):=by
 refine gF func154 (fun k z h=>AF oz h) ?_;refine gC (fun y=>?_) (fun y=>?_)
 ·have hk:g.kind≠0:=by simpa[aa] using y
  refine gR ?_;exact(aD.keep (qH rfl rfl)).sub (by unfold cD;rw[aoy hk];exact Sub.agg (.cons (.refl _) (.cons (Sub.nil _ _ _) (.cons (Sub.nil _ _ _) (.cons (.refl _) .nil)))) rfl)
 have hk:g.kind=0:=by simpa[aa]using y
 obtain⟨h0,h1⟩:=hd hk;obtain⟨x,hx⟩:=aB (l:=xs) (i:=g.driver.toNat) oz;refine gi (lc (n:=g.driver.toNat) oz hx) ?_;refine gD ?_;refine gR ?_;exact(aD.keep (qH rfl rfl)).sub (by unfold cD;rw[aoz hk,aw hx];exact .refl _)
theorem Xu:oi (.agg [nS,nS,nS,nS]) aN.av:=by
 refine⟨rfl,?_⟩;intro j x y hx hy
 match j,hx,hy with
 |0,hx,hy=>cases hx;cases hy;exact⟨rfl,.nil _ _ _⟩
 |1,hx,hy=>cases hx;cases hy;exact⟨rfl,.nil _ _ _⟩
 |2,hx,hy=>cases hx;cases hy;exact⟨rfl,.nil _ _ _⟩
 |3,hx,hy=>cases hx;cases hy;exact⟨rfl,.nil _ _ _⟩
theorem VG(n:Nat):BlkSub (.row 4 (als n (.agg [nS,nS,nS,nS]))) (.row 4 ((als n aN).map Pq.av)):=by
 refine .row (by simp) ?_;intro i e e' he he';rw[aoq,aoh]at he';rw[aoh]at he;split at he
 ·rename_i h;rw[aoz h]at he';cases he;cases he'
  exact Xu
 ·cases he
theorem ad1:oC.av=.agg [nA (sh 0 (((1:Int):Rat):Rat)),nA [],nA [],nA []]:=by
 have h:sh 0 (((1:Int):Rat):Rat)=[1]:=by decide +kernel
 rw[h];rfl
theorem Xv{l:Li}{xs:List Tn}{G:List Gr}{fo:FuncId}{caps:List AV}{sg:Bool}{es:List AV}(h0:0<l.bo.length)(hl:l.bo.length<=100) :
  Con prog 65 [.ptr 1000 0] (iM l xs G fo caps sg 1001 es) (fY l).av (iM l xs G fo caps sg 1001 es):=by
 refine gF func65 (fun k z h=>AF oz h) ?_;refine gl ?_;refine gs (kq (.tmp rfl) T45 rfl T55 rfl rfl oz (by dsimp only;omega) rfl) ?_ (2,0);refine gW (Wk.of (sl:=[pP 2 (.ptr 2 0),pP 3 (.ptr 3 0)]) (hp:=[pP 2 (.box [nS,nS,nS]),pP 3 (.box [nS,.ms 10 4 0 l.bo.length,nS]),pP 10 (.row 4 ((als l.bo.length aN).map Pq.av)),pP 1000 (.box (ku l xs G fo caps sg (.ms 1001 3 0 es.length))),pP 1001 (.row 3 es)]) bg (.k (.k (.cons rfl (VG _) (.k (.k .nil)))))) ?_;refine gc (sR 1 oz) ?_;refine gc (tt (q:=((1:Int):Rat)) (Qb.one.qs oz)) ?_;refine gs (cG (n:=0) (.tmp rfl) (.const _) T45 rfl T55 rfl oz oz rfl) ?_ (2,7);refine gs (Mv (e:=aN.av) (e':=.agg [nA (sh 0 (((1:Int):Rat):Rat)),nA [],nA [],nA []]) (.tmp rfl) rfl (by rw[anr,aoh,aoz h0];rfl) (.tmp rfl) rfl rfl T53 rfl rfl rfl) ?_;refine gD ?_ (3,0);refine gW ((Wk.freeze (k:=10) rfl).trans<|Wk.of (sl:=[pP 2 (.ptr 2 0),pP 3 (.ptr 3 0)]) (hp:=[pP 2 (.box [nS,nS,nS]),pP 3 (.box [nS,.lst 4 ((fY l).bs.map Pq.av),nS]),pP 1000 (.box (ku l xs G fo caps sg (.ms 1001 3 0 es.length))),pP 1001 (.row 3 es)]) bg (.k (.cons rfl (BlkSub.bL (.cons (.refl _) (.cons (.of (by rw[cz (by simp)];unfold fY;rw[aou,ad1])) (.cons (.refl _) .nil))) rfl) (.k (.k .nil))))) ?_
 refine gR ?_;exact(aD.keep (qH rfl rfl)).sub (Sub.agg (.cons (Sub.nil _ _ _) (.cons (.refl _) (.cons (Sub.nil _ _ _) .nil))) rfl)
theorem I9(k m:Int):FP 151 [i64 k,i64 m] (bl true):=by
 refine am func151 ?_;refine ai ?_;rfl
def zU(l:Li)(xs:List Tn):Nat:=if splitE l≠0 then splitE l else if xs.length≠l.dv.length then 10 else gO (xs.map Tn.err)
def gd(l:Li)(xs:List Tn):Nat:=if aM l≠0 then aM l else zU l xs
def Fl(e:Nat)(l:Li)(xs:List Tn):Hp:=if e=0 then[pP 900 (.box (ku l xs (splitG l) 151 [] false (nS)))]else[]
theorem G5{e:Nat}(h:e≠0){l:Li}{xs:List Tn}:Fl e l xs=[]:=aoy h
theorem ZM{l:Li}{xs:List Tn}{e:Nat}(he:(if aM l=0 then splitE l else aM l)=e)(h:e≠0):gd l xs=e:=by
 unfold gd zU
 by_cases h1:aM l=0
 ·rw[aoz h1]at he;rw[aoy oz,aoz oz,he]
 ·rw[aoy h1]at he;rw[aoz h1,he]
theorem FU{l:Li}{xs:List Tn}(h:aM l=0)(hs:splitE l=0):gd l xs=if xs.length≠l.dv.length then 10 else gO (xs.map Tn.err):=by
 unfold gd zU;rw[aoy oz,aoy oz]
theorem Ku(l:Li)(hl:l.ok)(xs:List Tn)(hx:∀x∈xs,x.t.ok)(hn:xs.length<=100) :
  Con prog 63 [l.av,.lst 4 (xs.map Tn.av)] [] (.tup [CZ (gd l xs),bU (gd l xs)]) (Fl (gd l xs) l xs):=by
 have xh:=hl.ld;refine gF func63 (fun k z h=>by cases h) ?_;refine gc (Mi l hl) ?_;refine gC (fun u=>?_) (fun u=>?_)
 ·have h1:=et u;refine gR ?_;rw[ZM rfl h1,qN h1,G5 h1];exact q6 rfl
 have h1:=d7 u;obtain⟨au,iC⟩:=L8 h1;rw[show(if aM l=0 then splitG l else[])=splitG l from aoz au];refine gl ?_;refine gl ?_;refine gC (fun u=>?_) (fun u=>?_)
 ·have h2:=E3 u;have he:gd l xs=10:=by rw[FU au iC,aoz h2]
  refine gR ?_;rw[he,qN (by decide),G5 (by decide)];exact q6 rfl
 have h2:=FC u;have DA:gd l xs=gO (xs.map Tn.err):=by rw[FU au iC,aoy oz]
 refine gl ?_;refine aY [1,2,6,26,27] [2] (fun(i:Nat)=>[pP 28 (i64 i)]) (fun _=>[]) (fun i=>i<=xs.length/\∀y∈xs.take i,y.err=0) (fun i=>xs.length-i) 0 ⟨ans _,fun y hy=>by simp at hy⟩ ?_;rintro i ⟨hi,hz⟩ K1 J1;refine gC (fun u=>?_) (fun u=>?_) (st2:=(13,0))
 ·have ah:=bf u;obtain⟨x,DF⟩:=aB ah;refine gi (aL DF) ?_;refine gc (Ec x (hx x (ank DF))) ?_;refine gC (fun u=>?_) (fun u=>?_)
  ·have h3:=et u;have he:gd l xs=x.err:=by rw[DA]; exact WN DF hz h3
   refine gR ?_;rw[he,qN h3,G5 h3];exact q6 rfl
  have h3:=d7 u;refine ga aU ?_;exact aS J1 (i+1) ⟨ah,fun z kF=>by rw[dR DF]at kF;rcases anz.1 kF with h9 |h9;exact hz z h9;(rw[alr.1 h9];exact h3)⟩
 have ah:=bu hi u;have he:gd l xs=0:=by rw[DA];exact tQ (fun y hy=>hz y (by rw[ah,an3];exact hy))
 refine gW (Wk.o (sl:=[pP 1 (.lst 4 (xs.map Tn.av)),pP 2 (.ptr 2 0),pP 6 (.lst 4 ((splitG l).map Gr.av))]) (hp:=[pP 2 (.box l.av.cells)])) ?_ (77777,0);refine gW (Wk.of (sl:=[pP 4 (.ptr 42 0),pP 5 (.v .nilIface)]) (hp:=[pP 42 (.box (ku l xs (splitG l) 151 [] false (nS)))]) bg (.cons rfl (BlkSub.bL (.cons (.refl _) (.cons (.refl _) (.cons (.refl _) (.cons (.refl _) (.cons (.refl _) (.cons (.refl _) (.cons ((Sub.fn0 _).trans (CT rfl)) (.cons (.refl _) (.cons (.refl _) .nil))))))))) rfl) .nil)) ?_ (77777,0);refine gW (Wk.rk (k:=42) (d:=900) rfl rfl) ?_;refine gR ?_;rw[he];exact aD.keep (bH rfl)
section
variable{P:apb}{N:Nat}{R:Array Oper}{s:AS}{pos:String}{after:Array Edge}
theorem Ni{d f k k2:Nat}{bx bx2:Blk}{args:Array ao8}{ts:Array apa}{xs:List AV}{r:AV}{t:apa}
  (eW:Con P f xs [(k,some bx),(k2,some bx2)] r [(k,some bx),(k2,some bx2)]) (ha:EvL s args.toList xs) (bV:ajx k2 k=false) (hk:s.blk k=some bx) (dF:s.blk k2=some bx2)
  (ci:l0 s [(k,some bx),(k2,some bx2)] [(k,some bx),(k2,some bx2)] r=true) (hN:aks d N=true) :
  Step P N R s ⟨some d,.call ⟨.value (.func f),args,ts⟩,t,pos,after,none⟩ ⟨some r,[],gB args.toList,[k,k2]⟩:=by
 have ajl:k2≠k:=fun e=>by rw[e,akj]at bV;cases bV
 refine Step.weaken (aR (d:=d) eW ha (fun k' z h=>by
  rcases sF h with⟨rfl,h9⟩ |⟨_,rfl,h9⟩
  ·cases h9;exact hk
  ·cases h9;exact dF) ci hN) (fun s' h=>h) (fun s' h k' hk'=>?_) (fun s' h=>?_)
 ·left;simp only[aoc,eA,aow,map_nil,anz,an9,aob,or_false]at hk' ⊢;rcases hk' with h9 |h9 <;> exact h9
 ·intro C m a w hr;refine ⟨m,hr.weak (fun t x hx=>⟨x,hx,.refl _⟩) (fun k' x hx=>⟨x,?_,.refl _⟩)⟩;have hb:lk s'.hp k=some bx:=(h.2 k (by simp)).trans hk;have bJ:lk s'.hp k2=some bx2:=(h.2 k2 (by simp)).trans dF;show lk ([(k,some bx),(k2,some bx2)]++eA [(k,some bx),(k2,some bx2)]++s'.hp) k'=some x;have hx':lk s'.hp k'=some x:=hx;simp only [eA,aow,map_nil,ak5,nil_append,a5]
  by_cases e:k'=k
  ·rw[aoz e];rw[e,hb]at hx';exact hx'
  ·rw[aoy e]
   by_cases e2:k'=k2
   ·rw[aoz e2];rw[e2,bJ]at hx';exact hx'
   ·rw[aoy e2,aoy e,aoy e2];exact hx'
end
def vA(k:Nat):Nat:=bif ajx k 1001 then 901 else bif ajx k 901 then 1001 else k
theorem Xd(k:Nat):vA (vA k)=k:=by
 by_cases h1:k=1001
 ·subst h1;rfl
 ·by_cases h2:k=901
  ·subst h2;rfl
  ·have nb:∀{a b:Nat},a≠b->ajx a b=false:=fun h=>by
    cases h9:ajx _ _ with
    |false=>rfl
    |true=>exact ao5 (anw h9) h
   have e:vA k=k:=by simp only[vA,nb h1,nb h2,cond_false]
   rw[e,e]
theorem Ww{l:Li}{xs:List Tn}{G:List Gr}{fo:FuncId}{caps:List AV}{sg:Bool}{es es':List AV}{a:Aq}{e:Nat}
  (h:Con prog 64 [.ptr 1000 0,a.av] (iM l xs G fo caps sg 1001 es) (bU e) (iM l xs G fo caps sg 900 es')) :
  Con prog 64 [.ptr 1000 0,a.av] (iM l xs G fo caps sg 901 es) (bU e) (iM l xs G fo caps sg 900 es') :=
 Con.pm Xd h
theorem Z7{l:Li}{xs:List Tn}{G:List Gr}{fo:FuncId}{caps:List AV}{sg:Bool}{o:List Aq}{a:Aq}(hk:a.ms.length=G.length)(hG:G.length<=100)(ho:o.length<=1000)
  (fX:FP 152 [a.av] a.av) :
  Con prog 64 [.ptr 1000 0,a.av] (iM l xs G fo caps sg 1001 (o.map Aq.av)) (bU 0) (iM l xs G fo caps sg 900 ((o++[a]).map Aq.av)):=by
 refine gF func64 (fun k z h=>AF oz h) ?_;refine gl ?_;refine gl ?_;refine gC (fun y=>?_) (fun y=>?_) (st2:=(77777,0))
 ·refine gc fX ?_;refine gs (cZ (.tmp rfl) rfl (by rw[anl]) (.tmp rfl) T33 rfl T48 rfl rfl (by simp only [anl,an0,aoa]; omega) rfl rfl) ?_;refine gD ?_ (4,0);refine gW (Wk.of (sl:=[pP 4 (.v .nilIface)]) (hp:=[pP 1000 (.box (ku l xs G fo caps sg (.ms 30 3 0 ((o++[a]).map Aq.av).length))),pP 30 (.row 3 ((o++[a]).map Aq.av))]) bg (.cons rfl (BlkSub.bL (.cons (.refl _) (.cons (.refl _) (.cons (.refl _) (.cons (.refl _) (.cons (.refl _) (.cons (.refl _) (.cons (.refl _) (.cons (.refl _) (.cons (.of (by simp)) .nil))))))))) rfl) (.cons rfl (.of (by rw[aoc]; rfl)) .nil))) ?_ (4,0)
  refine gW (Wk.rk (k:=30) (d:=900) rfl rfl) ?_;refine gR ?_;exact aD.keep (qH rfl rfl)
 exact ao5 y (by rw[hk];simp[aa])
theorem ss(F:Int->Bool)(sg:Bool)(f:Sv->List Aq×Nat)(s:Sv)(r:List Sv) :
  gq F sg f (s::r)=if F s.mode=false then gq F sg f r else if(f s).2≠0 then f s else if sg=true then f s else((f s).1++(gq F sg f r).1,(gq F sg f r).2):=rfl
theorem yV{α:Type}{l:List α}{i:Nat}{x:α}(h:l[i]?=some x):l.drop i=x::l.drop (i+1):=by
 obtain⟨hi,e⟩:=alj.1 h;rw[alq hi,e]
def uT(F:Int->Bool)(sg:Bool)(f:Sv->List Aq×Nat)(S:List Sv)(i:Nat)(c:List Aq):Prop :=
  i<=S.length/\gq F sg f S=(c++(gq F sg f (S.drop i)).1,(gq F sg f (S.drop i)).2)
theorem S7(F:Int->Bool)(sg:Bool)(f:Sv->List Aq×Nat)(S:List Sv):uT F sg f S 0 []:=⟨ans _,rfl⟩
section
variable{F:Int->Bool}{sg:Bool}{f:Sv->List Aq×Nat}{S:List Sv}{i:Nat}{c:List Aq}(h:uT F sg f S i c){s:Sv}(hs:S[i]?=some s)
include h hs
theorem afx(hF:F s.mode=false):uT F sg f S (i+1) c:=by
 have h2:=h.2;rw[yV hs,ss,aoz hF]at h2;exact⟨(alj.1 hs).1,h2⟩
theorem aes(hF:F s.mode=true)(he:(f s).2≠0):gq F sg f S=(c++(f s).1,(f s).2):=by
 have h2:=h.2;rw[yV hs,ss,aoy (by rw[hF];simp),aoz he]at h2;exact h2
theorem UK(hF:F s.mode=true)(he:(f s).2=0)(h1:sg=true):gq F sg f S=(c++(f s).1,0):=by
 have h2:=h.2;rw[yV hs,ss,aoy (by rw[hF];simp),aoy oz,aoz h1,he]at h2;exact h2
theorem SE(hF:F s.mode=true)(he:(f s).2=0)(h1:sg=false):uT F sg f S (i+1) (c++(f s).1):=by
 have h2:=h.2;rw[yV hs,ss,aoy (by rw[hF];simp),aoy oz,aoy (by rw[h1];simp)]at h2;exact⟨(alj.1 hs).1,by rw[h2,aor]⟩
end
theorem af4{F:Int->Bool}{sg:Bool}{f:Sv->List Aq×Nat}{S:List Sv}{c:List Aq}(h:uT F sg f S S.length c):gq F sg f S=(c,0):=by
 have h2:=h.2;rw[ak7]at h2;rw[h2];simp[gq]
theorem VQ{l:Li}{xs:List Tn}{G:List Gr}{fo:FuncId}{caps:List AV}{sg:Bool}{o:List Aq}{a:Aq}{g:Gr}(hg:G[a.ms.length]?=some g)(hG:G.length<=100)(hx:xs.length<=100)(hd:g.kind=0->0<=g.driver/\g.driver<xs.length)
  {S:List Sv} {E:Nat} (hS:FP 153 [l.av,i64 a.ms.length,(cD g xs).av,a.av] (.tup [.lst 3 (S.map Sv.av),bU E])) (hSl:S.length<=100)
  {F:Int->Bool} (hF:∀m,FP fo ([i64 a.ms.length,i64 m]++caps) (bl (F m)))
  (hb:∀s∈S,FP 155 [a.av,g.av,s.av] (a.nxt g s).av)
  {f:Sv->List Aq×Nat} {M B:Nat} (hM:∀s∈S,(f s).1.length<=M) (hB:o.length+S.length*M<=B) (ih:∀(o:List Aq),o.length+M<=B->∀s∈S,Con prog 64 [.ptr 1000 0,(a.nxt g s).av] (iM l xs G fo caps sg 1001 (o.map Aq.av)) (bU (f s).2) (iM l xs G fo caps sg 900 ((o++(f s).1).map Aq.av))) :
  Con prog 64 [.ptr 1000 0,a.av] (iM l xs G fo caps sg 1001 (o.map Aq.av)) (bU (if E≠0 then E else(gq F sg f S).2)) (iM l xs G fo caps sg 900 ((o++(if E≠0 then[]else(gq F sg f S).1)).map Aq.av)):=by
 have hkG:=(alj.1 hg).1;refine gF func64 (fun k z h=>AF oz h) ?_;refine gl ?_;refine gl ?_;refine gC (fun y=>?_) (fun y=>?_) (st1:=(3,0));exact ao5 y (by simp[aa];omega);refine gi (aL hg) ?_;refine gt (Ni (Vn hd hx) (b8 rfl rfl) rfl rfl rfl rfl rfl) ?_;refine gc hS ?_;refine gD ?_;refine gC (fun y=>?_) (fun y=>?_) (st1:=(8,0)) (st2:=(77777,0))
 ·have hE:=et y;refine gW (Wk.o (sl:=[pP 4 (.v .nilIface),pP 8 (bU E)]) (hp:=[pP 1000 (.box (ku l xs G fo caps sg (.ms 1001 3 0 (o.map Aq.av).length))),pP 1001 (.row 3 (o.map Aq.av))])) ?_ (8,0);refine gW (Wk.rk (k:=1001) (d:=900) rfl rfl) ?_;refine gR ?_;rw[aoz hE,aoz hE,append_nil];exact aD.keep (qH rfl rfl)
 have hE:=d7 y;refine gW (Wk.of (sl:=[pP 0 (.ptr 1000 0),pP 3 (.ptr 3 0),pP 5 (i64 a.ms.length),pP 6 (.ptr 6 0),pP 7 (.lst 3 (S.map Sv.av))]) (hp:=[pP 3 (.box a.cs),pP 6 (.box g.av.cells),pP 1000 (.box (ku l xs G fo caps sg (.ms 1001 3 0 ((o++[]).map Aq.av).length))),pP 1001 (.row 3 ((o++[]).map Aq.av))]) bg (.k (.k (.cons rfl (BlkSub.bL (.cons (.refl _) (.cons (.refl _) (.cons (.refl _) (.cons (.refl _) (.cons (.refl _) (.cons (.refl _) (.cons (.refl _) (.cons (.refl _) (.cons (.of (by simp)) .nil))))))))) rfl) (.cons rfl (.of (by rw[append_nil])) .nil))))) ?_ (77777,0)
 refine gW (Wk.rk (k:=1001) (d:=901) rfl rfl) ?_;refine gl ?_;refine jZ [0,3,5,6,56,57] [3,6] (fun(i:Nat)(c:List Aq)=>[pP 58 (i64 i)]) (fun _ c=>[pP 1000 (.box (ku l xs G fo caps sg (.ms 901 3 0 ((o++c).map Aq.av).length))),pP 901 (.row 3 ((o++c).map Aq.av))]) (fun i c=>uT F sg f S i c/\c.length<=i*M) (fun i _=>S.length-i) 0 ([]) ⟨S7 F sg f S,ans _⟩ ?_;rintro i c ⟨oq,fX⟩ K1 J1;refine gC (fun y=>?_) (fun y=>?_) (st2:=(19,0))
 ·have ah:=bf y;obtain⟨s,hs⟩:=aB ah;have Iv:=ank hs;have Dh:=hM s Iv;have Q9:(i+1)*M=i*M+M:=aj9 i M;have ajm:(i+1)*M<=S.length*M:=aod M ah;refine gi (aL hs) ?_;refine gc (hF s.mode) ?_;refine gD ?_;refine gC (fun y=>?_) (fun y=>?_) (st2:=(77777,0))
  ·have At:F s.mode=false:=by simpa using y
   refine ga aU ?_;exact jq J1 (i+1) c ⟨afx oq hs At,by omega⟩
  have At:F s.mode=true:=by simpa using y
  refine gW (Wk.o (sl:=[pP 0 (.ptr 1000 0),pP 3 (.ptr 3 0),pP 5 (i64 a.ms.length),pP 6 (.ptr 6 0),pP 10 (.ptr 10 0),pP 56 (.lst 3 (S.map Sv.av)),pP 57 (i64 S.length),pP 58 (i64 i)]) (hp:=[pP 3 (.box a.cs),pP 6 (.box g.av.cells),pP 10 (.box s.av.cells),pP 1000 (.box (ku l xs G fo caps sg (.ms 901 3 0 ((o++c).map Aq.av).length))),pP 901 (.row 3 ((o++c).map Aq.av))])) ?_
  refine gc (hb s Iv) ?_;refine gt (aR (Ww (ih (o++c) (by rw[aoe];omega) s Iv)) (b8 rfl rfl) aT rfl rfl) ?_;refine gC (fun y=>?_) (fun y=>?_)
  ·have he:(f s).2≠0:=et y;have hR:=aes oq hs At he;refine gR ?_;rw[aoy oz,aoy oz,hR,<- aor];exact aD.keep (qH rfl rfl)
  have he:(f s).2=0:=d7 y;refine gC (fun y=>?_) (fun y=>?_) (st2:=(77777,0))
  ·have h1:sg=true:=by simpa using y
   have hR:=UK oq hs At he h1;refine gR ?_;rw[aoy oz,aoy oz,hR,<- aor];exact aD.keep (qH rfl rfl)
  have h1:sg=false:=by simpa using y
  refine gW (Wk.of (sl:=[pP 0 (.ptr 1000 0),pP 3 (.ptr 3 0),pP 5 (i64 a.ms.length),pP 6 (.ptr 6 0),pP 56 (.lst 3 (S.map Sv.av)),pP 57 (i64 S.length),pP 58 (i64 i)]) (hp:=[pP 3 (.box a.cs),pP 6 (.box g.av.cells),pP 1000 (.box (ku l xs G fo caps sg (.ms 900 3 0 ((o++(c++(f s).1)).map Aq.av).length))),pP 900 (.row 3 ((o++(c++(f s).1)).map Aq.av))]) bg (.k (.k (.cons rfl (BlkSub.bL (.cons (.refl _) (.cons (.refl _) (.cons (.refl _) (.cons (.refl _) (.cons (.refl _) (.cons (.refl _) (.cons (.refl _) (.cons (.refl _) (.cons (.of (by rw[aor])) .nil))))))))) rfl) (.cons rfl (.of (by rw[aor])) .nil))))) ?_ (77777,0)
  refine gW (Wk.rk (k:=900) (d:=901) rfl rfl) ?_;refine ga aU ?_;exact jq J1 (i+1) (c++(f s).1) ⟨SE oq hs At he h1,by rw[aoe];omega⟩
 have ah:=bu oq.1 y;subst ah;have hR:=af4 oq;refine gW (Wk.o (sl:=[]) (hp:=[pP 1000 (.box (ku l xs G fo caps sg (.ms 901 3 0 ((o++c).map Aq.av).length))),pP 901 (.row 3 ((o++c).map Aq.av))])) ?_ (19,0);refine gW (Wk.rk (k:=901) (d:=900) rfl rfl) ?_;refine gR ?_;rw[aoy oz,aoy oz,hR];exact aD.keep (qH rfl rfl)
variable{P:apb}{N:Nat}{R:Array Oper}{s:AS}{pos:String}{after:Array Edge}
end Go.Lw
