/- AssembleOnes: for any linkage, any turns and any modes the law returns true and leaves its arguments as they were. No other condition. Part 8 of 8: the statement -/
import Derived.Test.YtlilpljpajeafaaGreatYg
set_option linter.unusedVariables false
open List (mem_of_getElem? mem_cons_of_mem mem_append map_cons mem_cons length_cons mem_cons_self length_append length_nil all_eq_true getElem?_map getElem?_replicate map_append length_take take_of_length_le drop_zero take_length map_nil not_mem_nil length_map map_replicate map_set drop_length)
open Nat (le_refl le_trans zero_le lt_of_le_of_lt)
open Bool (and_eq_true or_eq_true)
open Int (toNat_natCast)
open Go.Proofs.Tryz
namespace Go.Lw
open Go.Proofs
section
variable{ts:LL}{a b c a2 b2 c2:List Rat}{x y z x2 y2 z2:Et ts}
theorem Tt[c0:Ct ts 310000 65000][i1:Zl ts 310000 65000 a x 40 40][i2:Zl ts 310000 65000 b y 40 40][i3:Zl ts 310000 65000 c z 3 0][i4:Zl ts 310000 65000 a2 x2 40 40][i5:Zl ts 310000 65000 b2 y2 40 40][i6:Zl ts 310000 65000 c2 z2 3 0] :
  FP 312 [an ts,.agg [nA a,nA b,nA c],.agg [nA a2,nA b2,nA c2]] (nA (sX (cm (x,y) z (x2,y2) z2))):=by
 have hd:=xl (ts:=ts) (u:=310000) (k:=65000) (a:=a) (b:=b) (a2:=a2) (b2:=b2) (by decide);haveI:=i3.zu;haveI:=i6.zu;haveI zd:=vF c0 i1.zu i2.zu i4.zu i5.zu;haveI q4:Qz 310000 ((4:Int):Rat) 1:=Qz.int (c:=Ct.cx (c:=c0)) (by decide);have m1:=At (ts:=ts) (u:=310000) (k:=65000) (a:=c) (b:=sX (au (x,y) (x2,y2)));have m2:=tZ (ts:=ts) (u:=310000) (k:=65000) (a:=sX (z+au (x,y) (x2,y2))) (b:=c2);have m3:=nI (ts:=ts) (u:=310000) (k:=65000) (a:=c) (b:=sX (au (x,y) (x2,y2)));have m4:=nI (ts:=ts) (u:=310000) (k:=65000) (a:=sh 0 (((4:Int):Rat):Rat)) (b:=sX (z*au (x,y) (x2,y2)));have m5:=nI (ts:=ts) (u:=310000) (k:=65000) (a:=sX (z+au (x,y) (x2,y2)-z2)) (b:=sX (z+au (x,y) (x2,y2)-z2));have m6:=tZ (ts:=ts) (u:=310000) (k:=65000) (a:=sX (qE ((4:Int):Rat)*(z*au (x,y) (x2,y2)))) (b:=sX ((z+au (x,y) (x2,y2)-z2)*(z+au (x,y) (x2,y2)-z2)));refine af func312 ?_;refine gc hd ?_;refine gc m1 ?_;refine gc m2 ?_;refine gD ?_;refine gc (uG 4 oz) ?_;refine gc m3 ?_;refine gc m4 ?_;refine gc m5 ?_;refine gc m6 ?_;refine gD ?_;refine ae ?_;rfl
end
theorem US{ts:LL}(c:Ct ts 310000 65000){n d g:Et ts}(y1:Zu 310000 65000 n 3 0)(y2:Zu 310000 65000 d 320 327)(y3:Zu 310000 65000 g 3 0) :
  FP 29 [an ts,nA (sX n),nA (sX d)] (nA (sX (n*d)))/\FP 29 [an ts,nA (sX g),nA (sX g)] (nA (sX (g*g)))/\FP 276 [an ts,nA (sX (n*d)),nA (sX (g*g))] (nA (sX (n*d-g*g))):=by
 haveI:=c;haveI:=y1;haveI:=y2;haveI:=y3
 have m1:=nI (ts:=ts) (u:=310000) (k:=65000) (a:=sX n) (b:=sX d);have m2:=nI (ts:=ts) (u:=310000) (k:=65000) (a:=sX g) (b:=sX g);have m3:=tZ (ts:=ts) (u:=310000) (k:=65000) (a:=sX (n*d)) (b:=sX (g*g));exact⟨m1,m2,m3⟩
theorem Ko{l:Li}{a:As}(D:DyR l a){i z0 z1:Int}{j0 j:Jt}(P:SlP 3900000 l a ⟨3,[i],[z0,z1],0⟩ 3 i z0 z1 j0 j)(hj:j.b=i)(hb:Pd 3900000 a j.a) :
  FP 304 [cf a.rs,.agg (uI l a i j0 j)] (nA (sX (xh l a ⟨3,[i],[z0,z1],0⟩))):=by
 have q0:=dL D.hl D.li P.h0 (lH P.p0);obtain⟨i1,i2,i3,i4,i5⟩:=dm D.li P.h1;have q1:Sm 1000 (ax l i j.on):=by rw[<- hj];exact gI D.hl D.li i2 i4
 have q2:Sm 1000 (ax l i j.to):=by rw[<- hj];exact gI D.hl D.li i2 (i5 P.hk)
 obtain⟨y1,y2⟩:=gO D.hl D.li D.al D.s D.hc P.h0 P.p0;obtain⟨y3,y4⟩:=gV D.hl D.li D.al D.s D.hc i1 i3 hb;haveI c:=D.s.ct D.hc;haveI zd:Zu 310000 65000 (au (aV l a j.a j.point) (am l a j0 i)) 320 327:=vF c y3 y4 y1 y2;have hv:=q2.sub q1;haveI:Qz 310000 (bF (bn (ax l i j.to) (ax l i j.on)) (bn (ax l i j.to) (ax l i j.on))) 3:=lU (hv.dot hv) oz;haveI:Qz 310000 (pX (bn (ax l i j.to) (ax l i j.on)) (bn (ax l i j.on) (ah l j0 i))) 3:=lU (hv.cross (q1.sub q0)) oz;haveI zn:Zu 310000 65000 (gN (aW (qv (ax l i j.to)) (qv (ax l i j.on))) (aW (qv (ax l i j.to)) (qv (ax l i j.on))):Et (llq a.rs)) 3 0:=by rw[jJ,rQ];exact inferInstance
 haveI zh:Zu 310000 65000 (k9 (aW (qv (ax l i j.to)) (qv (ax l i j.on))) (aW (qv (ax l i j.on)) (qv (ah l j0 i))):Et (llq a.rs)) 3 0:=by rw[jJ,jJ,uS];exact inferInstance
 rw[DE P];obtain⟨m1,m2,m3⟩:=US c zn zd zh;rw[<- (bN D.s.tr D.hc).2]at m1 m2 m3;refine af func304 ?_;refine gC (fun t8=>?_) (fun t8=>?_) (st1:=(3,0));cases t8;refine gC (fun t22=>?_) (fun t22=>?_) (st1:=(5,0));cases t22;refine gC (fun t50=>?_) (fun t50=>?_) (st2:=(77777,0))
 ·refine gc m1 ?_;refine gc m2 ?_;refine gc m3 ?_;refine gD ?_;refine ae ?_;rfl
 cases t50
theorem DyOk.drv{l:Li}{k:Int}{a:As}{own:Bool}{n:Nat}{g:Gr}(h:DyOk 3900000 l k a own n g)(hk:g.kind=0):∃i z0 d j0,g=⟨0,[i],[z0],d⟩/\l.jo[z0.toNat]?=some j0/\PinP 3900000 l a j0 i:=by
 have hd:=h.dy;cases hd with
 |rrr _ _ _ _ _ _ _=>exact absurd hk (by simp)
 |pr _ _ _=>exact absurd hk (by simp)
 |rp _ _ _=>exact absurd hk (by simp)
 | @drv b z d j x t d0 hd hb=>exact⟨b,z,d,j,rfl,t.hj,h.pin rfl t (by simp) (by simp)⟩
theorem U8(d:Nat)(hd:Nat.blt d 1000=true)(k:Nat)(hk:k<=5):Con prog 366 [i64 k] [] (.ms d 3 0 (2^(k+1))) [(d,some (.row 3 ((cc k).map qA)))]:=by
 have hp:2^(k+1)<=64:=bT (b:=6) oz;have hp2:2^k<2^(k+1):=Nat.pow_lt_pow_right oz oz;have hp0:=Nat.two_pow_pos k;refine gF func366 (fun k z h=>by cases h) ?_;refine gs (fj (.const _) (.tmp rfl) oz (G8 hk) rfl) ?_;refine gs (fD (.tmp rfl) T67 rfl T45 rfl rfl oz (by dsimp only;omega) rfl) ?_;refine gs (fj (.const _) (.tmp rfl) oz (kD oz) rfl) ?_;refine gc (lg 1 oz) ?_;refine gs (bP (n:=2^k) (.tmp rfl) (.tmp rfl) T67 rfl T45 rfl oz oz rfl) ?_;refine gs (cO (.tmp rfl) rfl (by rw[getElem?_replicate,VQ oz]) rfl (.tmp rfl) rfl rfl T45 rfl rfl) ?_;refine gD ?_ (3,0);refine gW (Wk.of (sl:=[(3,some (.ms 6 3 0 (2^(k+1))))]) (hp:=[(6,some (.row 3 ((cc k).map qA)))]) (.cons rfl (Sub.of (congrArg (AV.ms 6 3 0) (toNat_natCast _))) .nil) (.cons rfl (Jm k) .nil)) ?_;refine gR ?_;exact aA.own1 rfl hd rfl
theorem Nq(k:Nat)(hk:k<=5):FP 366 [i64 k] (nA (cc k)):=by
 have h:=Con.freeze (by rw[length_map,ul];omega) (U8 0 rfl k hk);rw[drop_zero,take_of_length_le (by rw[length_map,ul];exact le_refl _)]at h;exact h
theorem EG{ts:LL}{r e:Nat}(tw:Tw ts r){a:List Rat}(ha:Nm ts.length e a)(he:e<=lm ts.length)(hs:0<=T.sgn (aj ts) ts.length (ad ts.length a)) :
  FP 305 [an ts,nA a] (.tup [an (aI ts a),nA (cc ts.length),i64 0]):=by
 have h3:=tw.three;have h5:=tw.five;have hlm:=fg ts.length;have hl:=ha.nl.le;have hR:∀z,z<ts.length->(ts.map nA)[z]?=some (nA (ts.getD z [])):=fun z hz=>jX oz
 have hsg:=nT ts ts.length r tw.ok h5 tw.pos (ts.map nA) hR ts.length _ _ (le_refl _) ha.nl ha.cb (ke (le_refl ts.length) h3 tw.le he);have hqs:=tw.rb.qs tw.le;refine af func305 ?_;refine gc (Di tw ha oz) ?_;refine gC (fun t17=>?_) (fun t17=>?_) (st1:=(3,0));cases t17;refine gc hsg ?_;refine gC (fun t23=>?_) (fun t23=>?_) (st1:=(5,0));exact absurd t23 (by simp only[aa,decide_eq_true_eq];omega);refine gl ?_;refine gC (fun t29=>?_) (fun t29=>?_) (st1:=(8,0));exact absurd t29 (by simp only[aa,beq_iff_eq];omega);refine gl ?_;refine gW (Wk.virt 900 1 rfl) ?_;refine aN [1,2,4,8,9,32,33] [2,4] (fun(i:Nat)=>[(34,some (i64 i))]) (fun i=>[(9,some (.box [.ms 900 1 0 i])),(900,some (.row 1 ((ts.take i).map nA)))]) (fun i=>i<=ts.length) (fun i=>ts.length-i) 0 (zero_le _) ?_ (h2:=(.cons rfl (BlkSub.bL (.cons (.nM _ _ _) .nil) rfl) (.k .nil)));rintro i hi K1 J1;refine gC (fun t35=>?_) (fun t35=>?_)
 ·have hin:=aT t35;obtain⟨d,hd⟩:=az hin
  have hdl:d.length<=32:=by
   have h9:=tw.len i hin;rw[aO hd]at h9;have:2^i<=32:=bT (b:=5) oz;omega
  refine gi (ay hd) ?_;refine gs (gf T67 rfl T45 rfl rfl rfl) ?_;refine gs (lS (.tmp rfl) rfl rfl (.tmp rfl) T67 rfl T45 rfl rfl (by simp only[length_map];omega) rfl rfl) ?_;refine gs (bO (.tmp rfl) rfl (by rw[length_map,length_take];omega) (.tmp rfl) T35 rfl T67 rfl rfl (by simp only[length_cons,length_nil];omega) rfl rfl) ?_;refine gD ?_ (14,0);refine gW (Wk.of (sl:=[(1,some (nA a)),(2,some (.ptr 2 0)),(4,some (.ptr 4 0)),(8,some (i64 ts.length)),(9,some (.ptr 9 0)),(32,some (.lst 1 (ts.map nA))),(33,some (i64 ts.length)),(34,some (i64 i))]) (hp:=[(2,some (.box [.lst 1 (ts.map nA)])),(4,some (.box [nS])),(9,some (.box [.ms 44 1 0 (i+1)])),(44,some (.row 1 ((ts.take (i+1)).map nA)))]) aR (.k (.k (.k (.cons rfl (BlkSub.of (by rw[cD hd,map_append];rfl)) .nil))))) ?_ (14,0)
  refine gW (Wk.rk (k:=44) (d:=900) rfl rfl) ?_;refine ga aE ?_;exact aH J1 (i+1) hin
 have hin:=a8 hi t35;subst hin;refine gs (fj (.const _) (.tmp rfl) oz (kD oz) rfl) ?_;refine gc (ox a (2^ts.length) hl (by have:2^ts.length<=32:=bT (b:=5) oz;omega)) ?_;refine gs (bO (.tmp rfl) rfl (by rw[length_map,length_take];omega) (.tmp rfl) T35 rfl T67 rfl rfl (by simp only[length_cons,length_nil];omega) rfl rfl) ?_;refine gD ?_ (16,0);refine gW ((Wk.freeze (k:=54) rfl).trans<|Wk.of (sl:=[(2,some (.ptr 2 0)),(4,some (.ptr 4 0)),(8,some (i64 ts.length)),(9,some (.ptr 9 0))]) (hp:=[(2,some (.box [.lst 1 (ts.map nA)])),(4,some (.box [nS])),(9,some (.box [.lst 1 ((aI ts a).map nA)]))]) aR (.k (.k (.cons rfl (BlkSub.bL (.cons (Sub.of (by rw[bD (by simp)];unfold aI;simp)) .nil) rfl) .nil)))) ?_;refine gc (Nq ts.length oz) ?_;refine gD ?_;refine uV ?_;rfl
section
variable{ts:LL}{u k:Nat}{a b a2 b2:List Rat}{x y x2 y2:Et ts}{w v w' v' w2 v2 w3 v3:Nat}
theorem FZ[c:Cy ts u k][ha:Zl ts u k a x w v][hb:Zl ts u k b y w' v'](hs:w*u+v*k+(w'*u+v'*k)<200000000000):FP 276 [an ts,nA a,nA b] (nA (sX (x-y))):=by
 obtain⟨R,tw,hk⟩:=c.ex;have h1:=qT tw ha.nm hb.nm (by rw[c.lm];omega);rw[ha.eq,hb.eq]at h1;exact h1
theorem nv[c:Cy ts u k][hc:Zl ts u k a x w v][ha:Zl ts u k a2 x2 w2 v2][hb:Zl ts u k b2 y2 w3 v3](e:Nat)(h1:w*u+v*k<=e)(h2:w2*u+v2*k<=e)(h3:w3*u+v3*k<=e)(he:e<=100000000000) :
  FP 306 [an ts,nA a,ao a2 b2] (ao (sX (x*x2)) (sX (x*y2))):=by
 obtain⟨R,tw,hk⟩:=c.ex;have h9:=JV tw (hc.nm.mono h1) (ha.nm.mono h2) (hb.nm.mono h3) (by rw[c.lm];omega);rw[hc.eq,ha.eq,hb.eq]at h9;exact h9
theorem Bu[c:Cy ts u k][ha:Zl ts u k a x w v][hb:Zl ts u k b y w' v'][ha2:Zl ts u k a2 x2 w2 v2][hb2:Zl ts u k b2 y2 w3 v3](e:Nat)(h1:w*u+v*k<=e)(h2:w'*u+v'*k<=e)(h3:w2*u+v2*k<=e)(h4:w3*u+v3*k<=e)(he:e<=100000000000) :
  FP 275 [an ts,ao a b,ao a2 b2] (ao (sX (x+x2)) (sX (y+y2))):=by
 obtain⟨R,tw,hk⟩:=c.ex;have h9:=Gy tw (ha.nm.mono h1) (hb.nm.mono h2) (ha2.nm.mono h3) (hb2.nm.mono h4) (by rw[c.lm];omega);rw[ha.eq,hb.eq,ha2.eq,hb2.eq]at h9;exact h9
theorem AU[c:Cy ts u k][ha:Zl ts u k a x w v][hb:Zl ts u k b y w' v'][ha2:Zl ts u k a2 x2 w2 v2][hb2:Zl ts u k b2 y2 w3 v3](e:Nat)(h1:w*u+v*k<=e)(h2:w'*u+v'*k<=e)(h3:w2*u+v2*k<=e)(h4:w3*u+v3*k<=e)(he:e<=100000000000) :
  FP 168 [an ts,ao a b,ao a2 b2] (ao (sX (x-x2)) (sX (y-y2))):=by
 obtain⟨R,tw,hk⟩:=c.ex;have h9:=tU tw (ha.nm.mono h1) (hb.nm.mono h2) (ha2.nm.mono h3) (hb2.nm.mono h4) (by rw[c.lm];omega);rw[ha.eq,hb.eq,ha2.eq,hb2.eq]at h9;exact h9
theorem uU{j:Nat}[c:Cy ts u k][ha:Zl ts u k a x w v][hb:Zl ts u k b y w' v'](nb:Nl j b)(hj:j<=ts.length)(hj1:j<=1)(h0:ak y≠0)(hs:(w+5*w')*u+(v+5*v'+3)*k<=200000000000) :
  FP 308 [an ts,nA a,nA b] (nA (sX (x*iE y)))/\Zu u k (x*iE y) (w+5*w') (v+5*v'+3):=by
 refine⟨?_,(ot (a:=a) (b:=b) nb hj hj1 h0 hs).2⟩
 have e:(w+5*w')*u+(v+5*v'+3)*k=w*u+v*k+(5*(w'*u+v'*k)+2*k)+k:=by
  simp only[Nat.add_mul,Nat.mul_add,Nat.mul_assoc];omega
 rw[e]at hs;obtain⟨R,tw,hk⟩:=c.ex;have h2:=IB R (w'*u+v'*k) hj1;have h3:=gz R hj;have h1:T.sgn (aj ts) ts.length (ad ts.length b)≠0:=by rw[hb.eq];exact h0
 have h9:=yb tw ha.nm hb.nm hj nb h1 (by rw[c.lm];omega) oz;rw[ha.eq,hb.eq]at h9;exact h9
theorem Dt[c:Cy ts u k][hb:Zl ts u k b y w v](hs:w*u+v*k<200000000000):FP 307 [an ts,ao a b] (ao (sX (0-y)) a):=by
 haveI zn:Zl ts u k [] (0:Et ts) 0 0:=tE;have h1:=Con.sA (.cons (.refl _) (.cons (Sub.nil 3 none 0) (.cons (.refl _) .nil))) (FZ (ts:=ts) (u:=u) (k:=k) (a:=[]) (b:=b) oz);refine af func307 ?_;refine gc h1 ?_;refine gD ?_;refine ae ?_;rfl
theorem CR(cs:List (List Rat×List Rat×List Rat))(hl:cs.length<=2)(hs:∀q∈cs,∃g:Int,0<=g/\FP 28 [an ts,nA q.2.2] (i64 g)) :
  FP 310 [an ts,.lst 3 (cs.map fun q=>.agg [nA q.1,nA q.2.1,nA q.2.2])] (i64 0):=by
 refine af func310 ?_;refine gl ?_;refine aN [2,7,8] [2] (fun(i:Nat)=>[(9,some (i64 i))]) (fun _=>[]) (fun i=>i<=cs.length) (fun i=>cs.length-i) 0 (zero_le _) ?_;rintro i hi K1 J1;refine gC (fun t10=>?_) (fun t10=>?_)
 ·have hin:=aT t10;obtain⟨q,hq⟩:=az hin;obtain⟨g,h0,hg⟩:=hs q (mem_of_getElem? hq);refine gi (ay hq) ?_;refine gc hg ?_;refine gC (fun t17=>?_) (fun t17=>?_) (st1:=(5,0));exact absurd t17 (by simp only[aa,decide_eq_true_eq];omega);refine ga aE ?_;exact aH J1 (i+1) hin
 refine ae ?_;rfl
def nG(m h:P2 ts)(X:Et ts):Mt :=
  if ak X<0 then⟨ts,[]⟩else if ak X=0 then⟨ts,[m.l]⟩
  else⟨aI ts (sX X),[P2.l ((aQ X m.1+bK X*aQ X h.1,aQ X m.2+bK X*aQ X h.2):P2 (aI ts (sX X))),P2.l ((aQ X m.1-bK X*aQ X h.1,aQ X m.2-bK X*aQ X h.2):P2 (aI ts (sX X)))]⟩
theorem D9{m h:P2 ts}{X:Et ts}(tw:Tw ts 64990)(hn:ts.length<=1)[c0:Ct ts 310000 65000](zX:Zu 310000 65000 X 976 989)(m1:Nm ts.length 773000000 (sX m.1))(m2:Nm ts.length 773000000 (sX m.2))(h1:Nm ts.length 773000000 (sX h.1))(h2:Nm ts.length 773000000 (sX h.2)) :
  FP 311 [an ts,ao (sX m.1) (sX m.2),ao (sX h.1) (sX h.2),nA (sX X)] (.tup [(nG m h X).av,i64 0]):=by
 have hlm:lm ts.length=200000000000:=by unfold lm;rw[VQ oz]
 have hsg:=jA (ts:=ts) (u:=310000) (k:=65000) (a:=sX X);refine af func311 ?_;refine gc hsg ?_;refine gC (fun t17=>?_) (fun t17=>?_)
 ·have s1 : ak X < 0 := by have := bV t17; omega
  refine gR ?_;exact bw (by unfold nG;rw[VQ s1];exact Sub.tup (.cons (Sub.agg (.cons (.refl _) (.cons (.nil _ _ _) .nil)) rfl) (.cons (.refl _) .nil)))
 have s1:¬ak X<0:=by
  have h9:=cr t17;rcases(mu (aj ts) ts.length tw.pos).cs X with e |e |e
  ·exact absurd e h9
  ·show ¬sg (aj ts) ts.length X<0;omega
  ·show ¬sg (aj ts) ts.length X<0;omega
 refine gC (fun t21=>?_) (fun t21=>?_)
 ·have s2:ak X=0:=bV t21;refine bf ?_;unfold nG;rw[VP s1,VQ s2];rfl
 have s2:¬ak X=0:=cr t21;have E:ExtP X:=oI tw hn zX oz;have hex:=EG (a:=sX X) tw zX.nm (by rw[hlm];decide) (by rw[show ad ts.length (sX X)=X from bq _ _];show 0<=ak X;omega);haveI cy:=E.cy;haveI zr:Zl (aI ts (sX X)) 773000000 1101400000 (cc ts.length) (bK X) 1 0:=Zl.at (n8 oz) (by decide);haveI q1:Zl (aI ts (sX X)) 773000000 1101400000 (sX m.1) (aQ X m.1) 1 0:=Zl.at (fH m1 oz) (by decide);haveI q2:Zl (aI ts (sX X)) 773000000 1101400000 (sX m.2) (aQ X m.2) 1 0:=Zl.at (fH m2 oz) (by decide);haveI q3:Zl (aI ts (sX X)) 773000000 1101400000 (sX h.1) (aQ X h.1) 1 0:=Zl.at (fH h1 oz) (by decide);haveI q4:Zl (aI ts (sX X)) 773000000 1101400000 (sX h.2) (aQ X h.2) 1 0:=Zl.at (fH h2 oz) (by decide);have k1:=nv (ts:=aI ts (sX X)) (u:=773000000) (k:=1101400000) (a:=cc ts.length) (a2:=sX h.1) (b2:=sX h.2) 773000000 (by decide) (by decide) (by decide) (by decide);haveI:=zr.zu;haveI:=q1.zu;haveI:=q2.zu;haveI:=q3.zu;haveI:=q4.zu
 have k2:=Bu (ts:=aI ts (sX X)) (u:=773000000) (k:=1101400000) (a:=sX m.1) (b:=sX m.2) (a2:=sX (bK X*aQ X h.1)) (b2:=sX (bK X*aQ X h.2)) 10000000000 (by decide) (by decide) (by decide) (by decide) (by decide);have k3:=AU (ts:=aI ts (sX X)) (u:=773000000) (k:=1101400000) (a:=sX m.1) (b:=sX m.2) (a2:=sX (bK X*aQ X h.1)) (b2:=sX (bK X*aQ X h.2)) 10000000000 (by decide) (by decide) (by decide) (by decide) (by decide);refine gc hex ?_;refine gC (fun t35=>?_) (fun t35=>?_) (st1:=(8,0));cases t35;refine gc k1 ?_;refine gc k2 ?_;refine gc k3 ?_;refine gD ?_;refine bf ?_;unfold nG;rw[VP s1,VP s2];rfl
theorem Vk(p:P2 ts):en p 0 p=p:=by
 unfold en;refine Prod.ext ?_ ?_
 ·show p.1+0*p.1=p.1;grind
 ·show p.2+0*p.2=p.2;grind
def zQ(p q:P2 ts)(z z2:Et ts):P2 ts:=en p ((qE ((1:Int):Rat)*iE (au p q+au p q))*(z+au p q-z2)) (aW q p)
theorem Qm{p q:P2 ts}{z z2:Et ts}(h0:¬ak (au p q)=0):dQ p q z z2=nG (zQ p q z z2) (nO p q) (cm p z q z2):=by
 unfold dQ nG;rw[VP h0,CK,RU,LR];rfl
theorem Uf{z z2:Et ts}(tw:Tw ts 64990)(hn:ts.length<=1)[c0:Ct ts 310000 65000][i1:Zu 310000 65000 x 40 40][i2:Zu 310000 65000 y 40 40][i3:Zu 310000 65000 z 3 0][i4:Zu 310000 65000 x2 40 40][i5:Zu 310000 65000 y2 40 40][i6:Zu 310000 65000 z2 3 0](s1:0<=ak z)(s2:0<=ak z2) :
  FP 204 [an ts,.agg [nA (sX x),nA (sX y),nA (sX z)],.agg [nA (sX x2),nA (sX y2),nA (sX z2)]] (.tup [(dQ (x,y) (x2,y2) z z2).av,i64 (eA (x,y) (x2,y2) z z2)]):=by
 haveI cy:Cy ts 310000 65000:=⟨c0.ex,by omega,by omega,by omega⟩
 have P:=zN c0 i1 i2 i3 i4 i5 i6;haveI:=P.zd;haveI:=P.zX;have g1:=jA (ts:=ts) (u:=310000) (k:=65000) (a:=sX z);have g2:=jA (ts:=ts) (u:=310000) (k:=65000) (a:=sX z2)
 have hrg:=CR (ts:=ts) [(sX x,sX y,sX z),(sX x2,sX y2,sX z2)] (le_refl 2) (fun q hq=>by
  simp only[mem_cons,not_mem_nil,or_false]at hq;rcases hq with rfl |rfl
  ·exact⟨_,s1,g1⟩
  ·exact⟨_,s2,g2⟩)
 have hd:=xl (ts:=ts) (u:=310000) (k:=65000) (a:=sX x) (b:=sX y) (a2:=sX x2) (b2:=sX y2) (by decide);have sd:=jA (ts:=ts) (u:=310000) (k:=65000) (a:=sX (au (x,y) (x2,y2)));refine af func204 ?_;refine gc hrg ?_;refine gC (fun t20=>?_) (fun t20=>?_) (st1:=(3,0));cases t20;refine gc hd ?_;refine gc sd ?_;refine gC (fun t32=>?_) (fun t32=>?_)
 ·have hd0:ak (au (x,y) (x2,y2))=0:=bV t32;refine gc (Mc (ts:=ts) (u:=310000) (k:=65000) (a:=sX z) (b:=sX z2)) ?_;refine gC (fun t33=>?_) (fun t33=>?_)
  ·have h9 : ak (z - z2) ≠ 0 := by have := t33; unfold Aj at this; simpa using this
   refine gR ?_;exact bw (by unfold dQ eA kc jO;rw[VQ hd0,VQ hd0,VQ h9,VP (fun h=>h9 h.1)];exact Sub.tup (.cons (Sub.agg (.cons (.refl _) (.cons (.nil _ _ _) .nil)) rfl) (.cons (.refl _) .nil)))
  have h9:ak (z-z2)=0:=by have:=t33;unfold Aj at this;simpa using this
  refine gc g1 ?_;refine gC (fun t43=>?_) (fun t43=>?_)
  ·have h8:ak z=0:=bV t43;refine bf ?_;unfold dQ eA kc jO;rw[VQ hd0,VQ hd0,VP oz,VP oz,VP oz,Vk];rfl
  have h8:0<ak z:=by have:ak z≠0:=cr t43;omega
  refine gR ?_;exact bw (by unfold dQ eA kc jO;rw[VQ hd0,VQ hd0,VP oz,VQ h8,VQ ⟨h9,h8⟩];exact Sub.tup (.cons u9 (.cons (.refl _) .nil)))
 have hd0:¬ak (au (x,y) (x2,y2))=0:=cr t32;have ht0:ak (au (x,y) (x2,y2)+au (x,y) (x2,y2))≠0:=by rw[<- uW,wQ tw];exact hd0
 haveI zdd:Zu 310000 65000 (au (x,y) (x2,y2)+au (x,y) (x2,y2)) 321 328:=by have:=P.zt;rw[uW]at this;exact this
 haveI q1:Qz 310000 ((1:Int):Rat) 1:=Qz.int (c:=Cy.cx (c:=cy)) (by decide);obtain⟨ov,zh⟩:=uU (ts:=ts) (u:=310000) (k:=65000) (a:=sh 0 (((1:Int):Rat):Rat)) (b:=sX (au (x,y) (x2,y2)+au (x,y) (x2,y2))) (j:=ts.length) zdd.nm.nl (le_refl _) hn ht0 (by decide);haveI:=zh;have zw1:Zu 310000 65000 (x2-x) 80 81:=P.z1;have zw2:Zu 310000 65000 (y2-y) 80 81:=P.z2;haveI:=zw1;haveI:=zw2;haveI zk:Zu 310000 65000 ((qE ((1:Int):Rat)*iE (au (x,y) (x2,y2)+au (x,y) (x2,y2)))*(z+au (x,y) (x2,y2)-z2)) _ _:=inferInstance;have w1:=nD (ts:=ts) (u:=310000) (k:=65000) (a:=sX x2) (b:=sX y2) (a2:=sX x) (b2:=sX y);have w2:=At (ts:=ts) (u:=310000) (k:=65000) (a:=sX (au (x,y) (x2,y2))) (b:=sX (au (x,y) (x2,y2)));have w3:=At (ts:=ts) (u:=310000) (k:=65000) (a:=sX z) (b:=sX (au (x,y) (x2,y2)));have w4:=tZ (ts:=ts) (u:=310000) (k:=65000) (a:=sX (z+au (x,y) (x2,y2))) (b:=sX z2);have w5:=nI (ts:=ts) (u:=310000) (k:=65000) (a:=sX (qE ((1:Int):Rat)*iE (au (x,y) (x2,y2)+au (x,y) (x2,y2)))) (b:=sX (z+au (x,y) (x2,y2)-z2));have w6:=nv (ts:=ts) (u:=310000) (k:=65000) (a:=sX ((qE ((1:Int):Rat)*iE (au (x,y) (x2,y2)+au (x,y) (x2,y2)))*(z+au (x,y) (x2,y2)-z2))) (a2:=sX (x2-x)) (b2:=sX (y2-y)) 773000000 (by decide) (by decide) (by decide) (by decide);have w7:=Bu (ts:=ts) (u:=310000) (k:=65000) (a:=sX x) (b:=sX y) (a2:=sX (((qE ((1:Int):Rat)*iE (au (x,y) (x2,y2)+au (x,y) (x2,y2)))*(z+au (x,y) (x2,y2)-z2))*(x2-x))) (b2:=sX (((qE ((1:Int):Rat)*iE (au (x,y) (x2,y2)+au (x,y) (x2,y2)))*(z+au (x,y) (x2,y2)-z2))*(y2-y))) 773000000 (by decide) (by decide) (by decide) (by decide) (by decide);have w8:=Dt (ts:=ts) (u:=310000) (k:=65000) (a:=sX (x2-x)) (b:=sX (y2-y)) (by decide);haveI zn:Zu 310000 65000 (0:Et ts) 0 0:=(tE (ts:=ts) (u:=310000) (k:=65000)).zu;have w9:=nv (ts:=ts) (u:=310000) (k:=65000) (a:=sX (qE ((1:Int):Rat)*iE (au (x,y) (x2,y2)+au (x,y) (x2,y2)))) (a2:=sX (0-(y2-y))) (b2:=sX (x2-x)) 773000000 (by decide) (by decide) (by decide) (by decide);have f1:Nm ts.length 773000000 (sX (zQ (x,y) (x2,y2) z z2).1):=(inferInstance:Zu 310000 65000 (x+((qE ((1:Int):Rat)*iE (au (x,y) (x2,y2)+au (x,y) (x2,y2)))*(z+au (x,y) (x2,y2)-z2))*(x2-x)) _ _).nm.mono (by decide);have f2:Nm ts.length 773000000 (sX (zQ (x,y) (x2,y2) z z2).2):=(inferInstance:Zu 310000 65000 (y+((qE ((1:Int):Rat)*iE (au (x,y) (x2,y2)+au (x,y) (x2,y2)))*(z+au (x,y) (x2,y2)-z2))*(y2-y)) _ _).nm.mono (by decide);have f3:Nm ts.length 773000000 (sX (nO (x,y) (x2,y2)).1):=(inferInstance:Zu 310000 65000 (qE ((1:Int):Rat)*iE (au (x,y) (x2,y2)+au (x,y) (x2,y2))*(0-(y2-y))) _ _).nm.mono (by decide);have f4:Nm ts.length 773000000 (sX (nO (x,y) (x2,y2)).2):=(inferInstance:Zu 310000 65000 (qE ((1:Int):Rat)*iE (au (x,y) (x2,y2)+au (x,y) (x2,y2))*(x2-x)) _ _).nm.mono (by decide);have hmt:=D9 (X:=cm (x,y) z (x2,y2) z2) tw hn P.zX f1 f2 f3 f4;have hrd:=Tt (ts:=ts) (a:=sX x) (b:=sX y) (c:=sX z) (a2:=sX x2) (b2:=sX y2) (c2:=sX z2);refine gc w1 ?_;refine gc (uG 1 oz) ?_;refine gc w2 ?_;refine gc ov ?_;refine gD ?_;refine gc w3 ?_;refine gc w4 ?_;refine gc w5 ?_;refine gD ?_;refine gc w6 ?_;refine gc w7 ?_;refine gD ?_;refine gc w8 ?_;refine gc w9 ?_;refine gc hrd ?_;refine gc hmt ?_;refine gD ?_;refine bf ?_;rw[Qm hd0];unfold eA;rw[VP hd0];rfl
end
section
variable{ts:LL}
theorem NN{p q c:P2 ts}{z:Et ts}{r:Nat}(tw:Tw ts r)(h0:¬ak (bu p q)=0):eG p q c z=nG (en p (bY p q c*iE (bu p q)) (aW q p)) (mg p q) (bb p q c z):=by
 unfold eG nG;rw[VP h0,QH,Ow];have hc:ak (bb p q c z)=-1\/ak (bb p q c z)=0\/ak (bb p q c z)=1:=(mu (aj ts) ts.length tw.pos).cs (bb p q c z)
 by_cases h1:ak (bb p q c z)<0
 ·rw[VQ h1,VQ oz]
 ·rw[VP h1,VP oz]
theorem U2{p q c:P2 ts}{z:Et ts}(tw:Tw ts 64990)(hn:ts.length<=1)[c0:Ct ts 310000 65000](h1:Zu 310000 65000 p.1 40 40)(h2:Zu 310000 65000 p.2 40 40)(h3:Zu 310000 65000 q.1 40 40)(h4:Zu 310000 65000 q.2 40 40)(h5:Zu 310000 65000 c.1 40 40)(h6:Zu 310000 65000 c.2 40 40)(h7:Zu 310000 65000 z 3 0)(s1:0<=ak z) :
  FP 205 [an ts,.agg [nA (sX c.1),nA (sX c.2),nA (sX z)],ao (sX p.1) (sX p.2),ao (sX q.1) (sX q.2)] (.tup [(eG p q c z).av,i64 (fw p q)]):=by
 haveI cy:Cy ts 310000 65000:=⟨c0.ex,by omega,by omega,by omega⟩
 have P:=Af cy h1 h2 h3 h4 h5 h6 h7;haveI:=h1;haveI:=h2;haveI:=h3;haveI:=h4;haveI:=h5;haveI:=h6;haveI:=h7
 have g1:=jA (ts:=ts) (u:=310000) (k:=65000) (a:=sX z)
 have hrg := CR (ts := ts) [(sX c.1, sX c.2, sX z)] (by show 1 <= 2; omega) (fun q hq => by
  rw[List.mem_singleton.1 hq];exact⟨_,s1,g1⟩)
 have k1:=nD (ts:=ts) (u:=310000) (k:=65000) (a:=sX q.1) (b:=sX q.2) (a2:=sX p.1) (b2:=sX p.2);have k2:=nD (ts:=ts) (u:=310000) (k:=65000) (a:=sX c.1) (b:=sX c.2) (a2:=sX p.1) (b2:=sX p.2);haveI v1:Zu 310000 65000 (q.1-p.1) 80 81:=P.v1;haveI v2:Zu 310000 65000 (q.2-p.2) 80 81:=P.v2;haveI w1:Zu 310000 65000 (c.1-p.1) 80 81:=P.w1;haveI w2:Zu 310000 65000 (c.2-p.2) 80 81:=P.w2;have k3:=wz (ts:=ts) (u:=310000) (k:=65000) (a:=sX (q.1-p.1)) (b:=sX (q.2-p.2)) (a2:=sX (q.1-p.1)) (b2:=sX (q.2-p.2));have k4:=wz (ts:=ts) (u:=310000) (k:=65000) (a:=sX (q.1-p.1)) (b:=sX (q.2-p.2)) (a2:=sX (c.1-p.1)) (b2:=sX (c.2-p.2));have k5:=DJ (ts:=ts) (u:=310000) (k:=65000) (a:=sX (q.1-p.1)) (b:=sX (q.2-p.2)) (a2:=sX (c.1-p.1)) (b2:=sX (c.2-p.2));haveI:=P.zs;haveI:=P.ze;haveI:=P.zc
 have g2:=jA (ts:=ts) (u:=310000) (k:=65000) (a:=sX (bu p q));have t1:=nI (ts:=ts) (u:=310000) (k:=65000) (a:=sX (bu p q)) (b:=sX z);have t2:=nI (ts:=ts) (u:=310000) (k:=65000) (a:=sX (jf p q c)) (b:=sX (jf p q c));have t3:=tZ (ts:=ts) (u:=310000) (k:=65000) (a:=sX (bu p q*z)) (b:=sX (jf p q c*jf p q c));refine af func205 ?_;refine gc hrg ?_;refine gC (fun t22=>?_) (fun t22=>?_) (st1:=(3,0));cases t22;refine gc k1 ?_;refine gc k2 ?_;refine gD ?_;refine gc k3 ?_;refine gc g2 ?_;refine gC (fun t41=>?_) (fun t41=>?_)
 ·have hd0:ak (bu p q)=0:=bV t41;refine gR ?_;exact bw (by unfold eG fw;rw[VQ hd0,VQ hd0];exact Sub.tup (.cons u9 (.cons (.refl _) .nil)))
 have hd0:¬ak (bu p q)=0:=cr t41;haveI q1:Qz 310000 ((1:Int):Rat) 1:=Qz.int (c:=Cy.cx (c:=cy)) (by decide);obtain⟨ov,zh⟩:=uU (ts:=ts) (u:=310000) (k:=65000) (a:=sh 0 (((1:Int):Rat):Rat)) (b:=sX (bu p q)) (j:=ts.length) P.zs.nm.nl (le_refl _) hn hd0 (by decide);obtain⟨ow,ze⟩:=uU (ts:=ts) (u:=310000) (k:=65000) (a:=sX (bY p q c)) (b:=sX (bu p q)) (j:=ts.length) P.zs.nm.nl (le_refl _) hn hd0 (by decide);haveI:=zh;haveI:=ze
 have w6:=nv (ts:=ts) (u:=310000) (k:=65000) (a:=sX (bY p q c*iE (bu p q))) (a2:=sX (q.1-p.1)) (b2:=sX (q.2-p.2)) 773000000 (by decide) (by decide) (by decide) (by decide);have w7:=Bu (ts:=ts) (u:=310000) (k:=65000) (a:=sX p.1) (b:=sX p.2) (a2:=sX (bY p q c*iE (bu p q)*(q.1-p.1))) (b2:=sX (bY p q c*iE (bu p q)*(q.2-p.2))) 773000000 (by decide) (by decide) (by decide) (by decide) (by decide);have w9:=nv (ts:=ts) (u:=310000) (k:=65000) (a:=sX (qE ((1:Int):Rat)*iE (bu p q))) (a2:=sX (q.1-p.1)) (b2:=sX (q.2-p.2)) 773000000 (by decide) (by decide) (by decide) (by decide);have f1:Nm ts.length 773000000 (sX (en p (bY p q c*iE (bu p q)) (aW q p)).1):=(inferInstance:Zu 310000 65000 (p.1+bY p q c*iE (bu p q)*(q.1-p.1)) _ _).nm.mono (by decide);have f2:Nm ts.length 773000000 (sX (en p (bY p q c*iE (bu p q)) (aW q p)).2):=(inferInstance:Zu 310000 65000 (p.2+bY p q c*iE (bu p q)*(q.2-p.2)) _ _).nm.mono (by decide);have f3:Nm ts.length 773000000 (sX (mg p q).1):=(inferInstance:Zu 310000 65000 (qE ((1:Int):Rat)*iE (bu p q)*(q.1-p.1)) _ _).nm.mono (by decide);have f4:Nm ts.length 773000000 (sX (mg p q).2):=(inferInstance:Zu 310000 65000 (qE ((1:Int):Rat)*iE (bu p q)*(q.2-p.2)) _ _).nm.mono (by decide);have hmt:=D9 (X:=bb p q c z) tw hn ⟨P.zX.nm.mono (by decide)⟩ f1 f2 f3 f4;refine gc k5 ?_;refine gc t1 ?_;refine gc t2 ?_;refine gc t3 ?_;refine gD ?_;refine gc k4 ?_;refine gc ow ?_;refine gc w6 ?_;refine gc w7 ?_;refine gD ?_;refine gc (uG 1 oz) ?_;refine gc ov ?_;refine gc w9 ?_;refine gc hmt ?_;refine gD ?_;refine bf ?_;rw[NN tw hd0];unfold fw;rw[VP hd0];rfl
theorem Ak(i n:Nat)(hi:i<=100):FP 207 [i64 i,i64 n] (i64 (if n=1 then 0 else 1-2*(i:Int))):=by
 refine af func207 ?_;refine gC (fun t6=>?_) (fun t6=>?_)
 ·have h1 : n = 1 := by have := bV t6; omega
  refine ae ?_;rw[VQ h1];rfl
 have h1:¬n=1:=by have:=cr t6;omega
 refine ga (show _=2*(i:Int) by exact v7 oz) ?_;refine ga (show _=1-2*(i:Int) by exact dq oz) ?_;refine ae ?_;rw[VP h1];rfl
structure RbP(ts:LL)(u:Rat×Rat)(w:P2 ts)(p:Rat×Rat)(o:P2 ts):Prop where
  nn:FP 24 [an ts,qN u,qN u] (nA (sh 0 (bF u u:Rat)))
  dot:FP 24 [an ts,qN u,bJ w.l] (nA (sX (qE u.1*w.1+qE u.2*w.2)))
  crs:FP 167 [an ts,qN u,bJ w.l] (nA (sX (qE u.1*w.2-qE u.2*w.1)))
  d1:FP 308 [an ts,nA (sX (qE u.1*w.1+qE u.2*w.2)),nA (sh 0 (bF u u:Rat))] (nA (sX (dj u w)))
  d2:FP 308 [an ts,nA (sX (qE u.1*w.2-qE u.2*w.1)),nA (sh 0 (bF u u:Rat))] (nA (sX (dk u w)))
  tn:FP 202 [an ts,nA (sX (dj u w)),nA (sX (dk u w)),qN p] (ao (sX (dj u w*qE p.1-dk u w*qE p.2)) (sX (dk u w*qE p.1+dj u w*qE p.2)))
  sb:FP 168 [an ts,bJ o.l,ao (sX (dj u w*qE p.1-dk u w*qE p.2)) (sX (dk u w*qE p.1+dj u w*qE p.2))] (ao (sX (um u w p o)) (sX (tl u w p o)))
theorem oO(q:Rat):sX (qE q:Et ts)=sh 0 (q:Rat):=vm _ _
theorem N8(u v:Rat×Rat):ao (sX (qE u.1-qE v.1:Et ts)) (sX (qE u.2-qE v.2:Et ts))=qN (bn u v):=by
 have h:∀a b:Rat,(qE a-qE b:Et ts)=qE (a-b):=fun a b=>(vA a b).symm
 rw[h,h,oO,oO];rfl
theorem FL{r W A K:Nat}{u p:Rat×Rat}{w o:P2 ts}(tw:Tw ts r)(h2:ts.length<=2)(hk:kB r ts.length<=K)(hu:Sm 3000 u)(hp:Sm 3000 p)(h0:bF u u≠0)
  (w1:Nm ts.length W (sX w.1)) (w2:Nm ts.length W (sX w.2)) (a1:Nm ts.length A (sX o.1)) (a2:Nm ts.length A (sX o.2)) (hW:3000<=W) (hF:4*W+10*K+A+100000<=80000000000):RbP ts u w p o:=by
 have hl:lm ts.length=200000000000:=by unfold lm;rw[VQ h2]
 have h5:=tw.five;have hu1:=fT (ts:=ts) h5 hu.x;have hu2:=fT (ts:=ts) h5 hu.y;have hp1:=fT (ts:=ts) h5 hp.x;have hp2:=fT (ts:=ts) h5 hp.y;have hnn:=fT (ts:=ts) h5 (hu.dot hu);have hkE:eB r ts.length<=K:=hk;have ew:∀x:Et ts,ad ts.length (sX x)=x:=fun x=>bq _ _
 have c0:=Bm tw (hu1.mono (f:=W) oz) (hu2.mono oz) (hu1.mono oz) (hu2.mono oz) (by rw[hl];omega);have c1:=Bm tw (hu1.mono (f:=W) oz) (hu2.mono oz) w1 w2 (by rw[hl];omega);have c2:=Gs tw (hu1.mono (f:=W) oz) (hu2.mono oz) w1 w2 (by rw[hl];omega);have n1:=By tw hu1 hu2 w1 w2;have n2:=BD tw hu1 hu2 w1 w2;rw[f0,f0,ew,ew]at c1 c2 n1 n2;rw[f0,f0]at c0
 have ed:sh ts.length (kH ts (qE u.1:Et ts) (qE u.2:Et ts) (qE u.1:Et ts) (qE u.2:Et ts))=sh 0 (bF u u:Rat):=by
  have h:(kH ts (qE u.1:Et ts) (qE u.2:Et ts) (qE u.1:Et ts) (qE u.2:Et ts))=(qE (bF u u):Et ts):=by
   show(qE u.1*qE u.1+qE u.2*qE u.2:Et ts)=qE (u.1*u.1+u.2*u.2);rw[xO,rf,rf]
  rw[h];exact oO _
 rw[ed]at c0
 have hs:T.sgn (aj ts) ts.length (ad ts.length (sh 0 (bF u u:Rat)))≠0:=by
  rw[lc,T.sgn_ofQ];intro h9;exact h0 (lN h9)
 have nb:Nl 0 (sh 0 (bF u u:Rat)):=eg 0 _;have d1:=yb tw n1 hnn (zero_le _) nb hs (by rw[hl];omega) (by simp only[iB];omega);have d2:=yb tw n2 hnn (zero_le _) nb hs (by rw[hl];omega) (by simp only[iB];omega);have m1:=s6 tw n1 hnn (zero_le _) nb hs (by rw[hl];omega) (by simp only[iB];omega);have m2:=s6 tw n2 hnn (zero_le _) nb hs (by rw[hl];omega) (by simp only[iB];omega);have f1:ad ts.length (sh ts.length (kH ts (qE u.1:Et ts) (qE u.2:Et ts) w.1 w.2))=(qE u.1*w.1+qE u.2*w.2:Et ts):=bq _ _;have f2:ad ts.length (sh ts.length (mR ts (qE u.1:Et ts) (qE u.2:Et ts) w.1 w.2))=(qE u.1*w.2-qE u.2*w.1:Et ts):=bq _ _;rw[f1,f0]at d1 m1;rw[f2,f0]at d2 m2;have k1:Nm ts.length (2*W+3*K+30000) (sX (dj u w)):=Nm.mono m1 (by simp only[iB];omega);have k2:Nm ts.length (2*W+3*K+30000) (sX (dk u w)):=Nm.mono m2 (by simp only[iB];omega);have c3:=Ek tw k1 k2 (hp1.mono (f:=2*W+3*K+30000) oz) (hp2.mono oz) (by rw[hl];omega);have n3:=qU tw k1 k2 hp1 hp2;have n4:=pj tw k1 k2 hp1 hp2;rw[f0,f0,ew,ew]at c3 n3 n4;have s1:=tU tw (a1.mono (f:=80000000000) oz) (a2.mono oz) (n3.mono oz) (n4.mono oz) (by rw[hl];omega);have f3:ad ts.length (sh ts.length (n7 ts (dj u w) (dk u w) (qE p.1:Et ts) (qE p.2:Et ts)))=(dj u w*qE p.1-dk u w*qE p.2:Et ts):=bq _ _;have f4:ad ts.length (sh ts.length (oU ts (dj u w) (dk u w) (qE p.1:Et ts) (qE p.2:Et ts)))=(dk u w*qE p.1+dj u w*qE p.2:Et ts):=bq _ _;rw[ew,ew,f3,f4]at s1;exact⟨c0,c1,c2,d1,d2,c3,s1⟩
theorem En{r:Nat}{u p:Rat×Rat}{w o:P2 ts}(tw:Tw ts r)(h2:ts.length<=2)(hk:kB r ts.length<=1101400000)(hu:Sm 3000 u)(hp:Sm 3000 p)(h0:bF u u≠0)
  (w1:Nm ts.length 17000000000 (sX w.1)) (w2:Nm ts.length 17000000000 (sX w.2)) (a1:Nm ts.length 773000000 (sX o.1)) (a2:Nm ts.length 773000000 (sX o.2)):RbP ts u w p o :=
 FL tw h2 hk hu hp h0 w1 w2 a1 a2 oz oz
theorem II{u p:Rat×Rat}{w o:P2 ts}(B:RbP ts u w p o):FP 309 [an ts,qN u,bJ w.l,qN p,bJ o.l] (lC u w p o).av:=by
 refine af func309 ?_;refine gc B.nn ?_;refine gc B.dot ?_;refine gc B.d1 ?_;refine gc B.crs ?_;refine gc B.d2 ?_;refine gD ?_;refine gc B.tn ?_;refine gc B.sb ?_;refine gD ?_;refine gD ?_;refine ae ?_;rfl
end
structure RHd(T:LL)(x:List Rat×List Rat)(h:Hd):Prop where
  u:FP 168 [an T,qN h.c,qN h.p] (qN (bn h.c h.p))
  w:FP 168 [an T,bJ x,ao h.a.1 h.a.2] (bJ (jW T h x).l)
  put:FP 309 [an T,qN (bn h.c h.p),bJ (jW T h x).l,qN h.p,ao h.a.1 h.a.2] (mc T x h).av
theorem zB{ts:LL}{m:Mt}(ok:MtOk ts m){x:List Rat×List Rat}(hx:x∈m.ps){p c:Rat×Rat}{o:P2 ts}(a1:Nm ts.length 773000000 (sX o.1))(a2:Nm ts.length 773000000 (sX o.2))(hp:Sm 1000 p)(hc:Sm 1000 c)
  (h0:bF (bn c p) (bn c p)≠0):RHd m.ts x ⟨p,o.l,c⟩:=by
 obtain⟨r,tw,hk⟩:=ok.tw;obtain⟨n1,n2⟩:=ok.ps x hx;obtain⟨b1,e1⟩:=ok.up _ _ a1;obtain⟨b2,e2⟩:=ok.up _ _ a2;have hl:lm m.ts.length=200000000000:=by unfold lm;rw[VQ ok.two]
 have h5:=tw.five;have q1:=fT (ts:=m.ts) h5 hc.x;have q2:=fT (ts:=m.ts) h5 hc.y;have q3:=fT (ts:=m.ts) h5 hp.x;have q4:=fT (ts:=m.ts) h5 hp.y;have hu:=tU tw q1 q2 q3 q4 (by rw[hl];omega);rw[f0,f0,f0,f0]at hu;have hu2:FP 168 [an m.ts,qN c,qN p] (qN (bn c p)):=by rw[<- N8 (ts:=m.ts)];exact hu
 have hw:=tU tw n1 n2 (b1.mono (f:=15500000000) oz) (b2.mono oz) (by rw[hl];omega)
 have B:RbP m.ts (bn c p) (jW m.ts ⟨p,o.l,c⟩ x) p (mU m.ts ⟨p,o.l,c⟩):=En tw ok.two hk ((hc.sub hp).mono oz) (hp.mono oz) h0 ((n1.sub b1).mono oz) ((n2.sub b2).mono oz)
  (by show Nm m.ts.length 773000000 (sX (dE m.ts (sX o.1)));rw[e1];exact b1) (by show Nm m.ts.length 773000000 (sX (dE m.ts (sX o.2)));rw[e2];exact b2)
 have hpt:=II B
 have e:bJ (mU m.ts ⟨p,o.l,c⟩).l=ao (sX o.1) (sX o.2):=by
  show ao (sX (dE m.ts (sX o.1))) (sX (dE m.ts (sX o.2)))=_;rw[e1,e2]
 rw[e]at hpt;exact⟨hu2,hw,hpt⟩
theorem LY{l:Li}{a:As}{i k:Int}{j0 j1 j2:Jt}{T:LL}{x:List Rat×List Rat}(H0:RHd T x ⟨ah l j0 i,P2.l (am l a j0 i),ah l j2 i⟩)(H1:RHd T x ⟨ah l j1 k,P2.l (am l a j1 k),ah l j2 k⟩) :
  FP 206 [an T,.agg (vT l a i k j0 j1 j2),bJ x] (.lst 4 [(mc T x ⟨ah l j0 i,P2.l (am l a j0 i),ah l j2 i⟩).av,(mc T x ⟨ah l j1 k,P2.l (am l a j1 k),ah l j2 k⟩).av]):=by
 refine af func206 ?_;refine gc H0.u ?_;refine gc H0.w ?_;refine gc H0.put ?_ (1,18);refine gs (Qc rfl (cG rfl) T38 rfl T69 rfl rfl rfl rfl rfl rfl rfl rfl) ?_;refine gD ?_;refine gC (fun t28=>?_) (fun t28=>?_) (st2:=(77777,0))
 ·refine gc H1.u ?_;refine gc H1.w ?_;refine gc H1.put ?_;refine gs (lS (.tmp rfl) rfl rfl (.tmp rfl) T38 rfl T69 rfl rfl (by simp only[length_cons,length_nil];omega) rfl rfl) ?_;refine gD ?_;refine ae ?_;rfl
 cases t28
theorem MR{l:Li}{a:As}{i:Int}{j0 j:Jt}{T:LL}{x:List Rat×List Rat}(H0:RHd T x ⟨ah l j0 i,P2.l (am l a j0 i),ax l i j.point⟩) :
  FP 206 [an T,.agg (wn l a i j0 j),bJ x] (.lst 4 [(mc T x ⟨ah l j0 i,P2.l (am l a j0 i),ax l i j.point⟩).av]):=by
 refine af func206 ?_;refine gc H0.u ?_;refine gc H0.w ?_;refine gc H0.put ?_;refine gD ?_;refine gC (fun t28=>?_) (fun t28=>?_) (st1:=(3,0));cases t28;refine ae ?_;rfl
section
variable{T:LL}
abbrev tg(T:LL)(R:Rp)(q:List Rat):Et T:=dE T q*dE T R.w.1-dE T R.h*(0-dE T R.w.2)
abbrev sL(T:LL)(R:Rp)(q:List Rat):Et T:=dE T q*dE T R.w.2-dE T R.h*dE T R.w.1
structure RRq(T:LL)(R:Rp)(q:List Rat):Prop where
  c1:FP 306 [an T,nA q,ao R.w.1 R.w.2] (ao (sX (dE T q*dE T R.w.1)) (sX (dE T q*dE T R.w.2)))
  qt:FP 307 [an T,ao R.w.1 R.w.2] (ao (sX (0-dE T R.w.2)) R.w.1)
  c2:FP 306 [an T,nA R.h,ao (sX (0-dE T R.w.2)) R.w.1] (ao (sX (dE T R.h*(0-dE T R.w.2))) (sX (dE T R.h*dE T R.w.1)))
  sb:FP 168 [an T,ao (sX (dE T q*dE T R.w.1)) (sX (dE T q*dE T R.w.2)),ao (sX (dE T R.h*(0-dE T R.w.2))) (sX (dE T R.h*dE T R.w.1))] (ao (sX (tg T R q)) (sX (sL T R q)))
  ov:FP 308 [an T,nA (sh 0 (((1:Int):Rat):Rat)),nA R.d] (nA (sX (qE ((1:Int):Rat)*iE (dE T R.d))))
  c3:FP 306 [an T,nA (sX (qE ((1:Int):Rat)*iE (dE T R.d))),ao (sX (tg T R q)) (sX (sL T R q))] (bJ (jZ T q R.h R.d R.w).l)
  put:FP 309 [an T,qN R.v,bJ (jZ T q R.h R.d R.w).l,qN R.p,ao R.a.1 R.a.2] (sZ T R q).av
theorem Fb{R:Rp}{q:List Rat}{j:Nat}(cy:Cy T 773000000 1101400000)(sm:Sm 3000 R.v)(sp:Sm 3000 R.p)(h0:bF R.v R.v≠0)(nq:Nm T.length 773000000 q)(nh:Nm T.length 773000000 R.h)(nd:Nm T.length 773000000 R.d)
  (n1:Nm T.length 773000000 R.w.1) (n2:Nm T.length 773000000 R.w.2) (a1:Nm T.length 773000000 R.a.1) (a2:Nm T.length 773000000 R.a.2) (e1:sX (dE T R.a.1)=R.a.1) (e2:sX (dE T R.a.2)=R.a.2)
  (nj:Nl j R.d) (hj:j<=T.length) (hj1:j<=1) (hd:ak (dE T R.d)≠0):RRq T R q:=by
 obtain⟨r,tw,hk⟩:=cy.ex;haveI:=cy;haveI zq:Zl T 773000000 1101400000 q (dE T q) 1 0:=Zl.at nq (le_refl _);haveI zh:Zl T 773000000 1101400000 R.h (dE T R.h) 1 0:=Zl.at nh (le_refl _);haveI zd:Zl T 773000000 1101400000 R.d (dE T R.d) 1 0:=Zl.at nd (le_refl _);haveI z1:Zl T 773000000 1101400000 R.w.1 (dE T R.w.1) 1 0:=Zl.at n1 (le_refl _);haveI z2:Zl T 773000000 1101400000 R.w.2 (dE T R.w.2) 1 0:=Zl.at n2 (le_refl _);haveI:=zq.zu;haveI:=zh.zu;haveI:=z1.zu;haveI:=z2.zu
 haveI z0:Zu 773000000 1101400000 (0:Et T) 0 0:=(tE (ts:=T) (u:=773000000) (k:=1101400000)).zu;haveI q1:Qz 773000000 ((1:Int):Rat) 1:=Qz.int (c:=Cy.cx (c:=cy)) (by decide);haveI zo:Zl T 773000000 1101400000 (sh 0 (((1:Int):Rat):Rat)) (qE ((1:Int):Rat)) 1 0:=Cy.zq;have c1:=nv (ts:=T) (u:=773000000) (k:=1101400000) (a:=q) (a2:=R.w.1) (b2:=R.w.2) 773000000 (by decide) (by decide) (by decide) (by decide);have qt:=Dt (ts:=T) (u:=773000000) (k:=1101400000) (a:=R.w.1) (b:=R.w.2) (by decide);have c2:=nv (ts:=T) (u:=773000000) (k:=1101400000) (a:=R.h) (a2:=sX (0-dE T R.w.2)) (b2:=R.w.1) 2000000000 (by decide) (by decide) (by decide) (by decide);have sb:=AU (ts:=T) (u:=773000000) (k:=1101400000) (a:=sX (dE T q*dE T R.w.1)) (b:=sX (dE T q*dE T R.w.2)) (a2:=sX (dE T R.h*(0-dE T R.w.2))) (b2:=sX (dE T R.h*dE T R.w.1)) 10000000000 (by decide) (by decide) (by decide) (by decide) (by decide);obtain⟨ov,zv⟩:=uU (ts:=T) (u:=773000000) (k:=1101400000) (a:=sh 0 (((1:Int):Rat):Rat)) (b:=R.d) nj hj hj1 hd (by decide);haveI:=zv;have c3:=nv (ts:=T) (u:=773000000) (k:=1101400000) (a:=sX (qE ((1:Int):Rat)*iE (dE T R.d))) (a2:=sX (tg T R q)) (b2:=sX (sL T R q)) 10000000000 (by decide) (by decide) (by decide) (by decide);have m1:Nm T.length 17000000000 (sX (qE ((1:Int):Rat)*iE (dE T R.d)*tg T R q)):=(inferInstance:Zu 773000000 1101400000 (qE ((1:Int):Rat)*iE (dE T R.d)*(dE T q*dE T R.w.1-dE T R.h*(0-dE T R.w.2))) _ _).nm.mono (by decide);have m2:Nm T.length 17000000000 (sX (qE ((1:Int):Rat)*iE (dE T R.d)*sL T R q)):=(inferInstance:Zu 773000000 1101400000 (qE ((1:Int):Rat)*iE (dE T R.d)*(dE T q*dE T R.w.2-dE T R.h*dE T R.w.1)) _ _).nm.mono (by decide)
 have k1:qE ((1:Int):Rat)*iE (dE T R.d)*tg T R q=(jZ T q R.h R.d R.w).1:=by
  show qE ((1:Int):Rat)*iE (dE T R.d)*(dE T q*dE T R.w.1-dE T R.h*(0-dE T R.w.2))=(dE T q*dE T R.w.1-dE T R.h*-dE T R.w.2)*iE (dE T R.d);rw[kG];grind
 have k2:qE ((1:Int):Rat)*iE (dE T R.d)*sL T R q=(jZ T q R.h R.d R.w).2:=by
  show qE ((1:Int):Rat)*iE (dE T R.d)*(dE T q*dE T R.w.2-dE T R.h*dE T R.w.1)=(dE T q*dE T R.w.2-dE T R.h*dE T R.w.1)*iE (dE T R.d);rw[kG];grind
 rw[k1]at m1;rw[k2]at m2;rw[k1,k2]at c3;have hpt:=II (En (w:=jZ T q R.h R.d R.w) (o:=(dE T R.a.1,dE T R.a.2)) tw cy.two hk sm sp h0 m1 m2 (by show Nm T.length 773000000 (sX (dE T R.a.1));rw[e1];exact a1) (by show Nm T.length 773000000 (sX (dE T R.a.2));rw[e2];exact a2))
 have e:bJ (P2.l ((dE T R.a.1,dE T R.a.2):P2 T))=ao R.a.1 R.a.2:=by
  show ao (sX (dE T R.a.1)) (sX (dE T R.a.2))=_;rw[e1,e2]
 rw[e]at hpt;exact⟨c1,qt,c2,sb,ov,c3,hpt⟩
end
abbrev qe(l:Li)(a:As)(i:Int)(j0 j:Jt):List AV :=
  [i64 3,i64 i,i64 0]++(fK (am l a j0 i)++(fK (aV l a j.a j.point)++(ff (ah l j0 i)++(ee++(ee++(ee++(ff (ax l i j.on)++(ff (ax l i j.to) ++
    ([nl,nl]++(ff (fF l i j)++[nA (sh 0 (cM l i j0 j:Rat)),nA (sh 0 (iz l i j:Rat)),nA (sX (cK l a i j0 j))]))))))))))
theorem Es(l:Li)(a:As)(i:Int)(j0 j:Jt):AV.agg (uI l a i j0 j)=.agg (qe l a i j0 j):=by
 have e1:(k9 (aW (qv (ax l i j.to)) (qv (ax l i j.on))) (aW (qv (ax l i j.on)) (qv (ah l j0 i))):Et (llq a.rs))=qE (cM l i j0 j):=by rw[jJ,jJ,uS];rfl
 have e2:(gN (aW (qv (ax l i j.to)) (qv (ax l i j.on))) (aW (qv (ax l i j.to)) (qv (ax l i j.on))):Et (llq a.rs))=qE (iz l i j):=by rw[jJ,rQ];rfl
 have e3:(aW (qv (ax l i j.to)) (qv (ax l i j.on)):Et (llq a.rs)×Et (llq a.rs))=qv (fF l i j):=by rw[jJ];rfl
 unfold uI qe;rw[e1,e2,e3,oO,oO,show fK (qv (fF l i j):Et (llq a.rs)×Et (llq a.rs))=ff (fF l i j) by show[nA (sX (qE (fF l i j).1:Et (llq a.rs))),nA (sX (qE (fF l i j).2:Et (llq a.rs)))]=_;rw[oO,oO]];rfl
theorem Ui{l:Li}{a:As}{i z0 z1:Int}{j0 j:Jt}(P:SlP 3900000 l a ⟨3,[i],[z0,z1],0⟩ 3 i z0 z1 j0 j):xh l a ⟨3,[i],[z0,z1],0⟩=aU l a i j0 j:=by
 rw[DE P,jJ,jJ,rQ,uS];rfl
theorem Lx{l:Li}{a:As}(D:DyR l a)(hn:(llq a.rs).length<=1){i z0 z1:Int}{j0 j:Jt}(P:SlP 3900000 l a ⟨3,[i],[z0,z1],0⟩ 3 i z0 z1 j0 j)(hj:j.b=i)(hb:Pd 3900000 a j.a) :
  FP 203 [an (llq a.rs),.agg (qe l a i j0 j)] (.tup [.lst 3 (fy l a i j0 j).1,i64 (fy l a i j0 j).2]):=by
 haveI c:=D.s.ct D.hc;obtain⟨tw,etw⟩:=bN D.s.tr D.hc;have ck:=c.k1;haveI cy:Cy (llq a.rs) 310000 65000:=⟨c.ex,c.k1,c.u3,by omega⟩
 have hlm:=cy.lm;have F:=yt D hn P hj hb;obtain⟨i1,i2,i3,i4,i5⟩:=dm D.li P.h1;obtain⟨y3,y4⟩:=gV D.hl D.li D.al D.s D.hc i1 i3 hb;haveI z3:=F.z3;haveI zX:=F.zX;haveI zl:=F.zl;haveI:=y3;haveI:=y4
 haveI y1:=F.y1;haveI y2:=F.y2;have sD:=jA (ts:=llq a.rs) (u:=310000) (k:=65000) (a:=sX (cK l a i j0 j));have sH:=jA (ts:=llq a.rs) (u:=310000) (k:=65000) (a:=sh 0 (cM l i j0 j:Rat));have sX9:=jA (ts:=llq a.rs) (u:=310000) (k:=65000) (a:=sX (aU l a i j0 j));have hrd:=Ko D P hj hb;rw[Ui P,Es,etw]at hrd;have hwy:=nD (ts:=llq a.rs) (u:=310000) (k:=65000) (a:=sX (aV l a j.a j.point).1) (b:=sX (aV l a j.a j.point).2) (a2:=sX (am l a j0 i).1) (b2:=sX (am l a j0 i).2);refine af func203 ?_;refine gc sD ?_;refine gC (fun t20=>?_) (fun t20=>?_)
 ·have hd0:ak (cK l a i j0 j)=0:=bV t20;refine gc sH ?_;refine gC (fun t25=>?_) (fun t25=>?_)
  ·have hh:ak (qE (cM l i j0 j):Et (llq a.rs))=0:=bV t25;refine gR ?_;exact bw (by unfold fy;rw[VQ ⟨hd0,hh⟩];exact Sub.tup (.cons (.nil _ _ _) (.cons (.refl _) .nil)))
  have hh:¬ak (qE (cM l i j0 j):Et (llq a.rs))=0:=cr t25;have h2:ak (aU l a i j0 j)<0:=Decidable.byContradiction fun h9=>uN tw h9 (fun h=>hh h.2) hd0
  refine gR ?_;exact bw (by unfold fy;rw[VP (fun h=>hh h.2),VQ h2];exact Sub.tup (.cons (.nil _ _ _) (.cons (.refl _) .nil)))
 have hd0:ak (cK l a i j0 j)≠0:=cr t20;refine gc hrd ?_;refine gc sX9 ?_ (12,0);refine uF [2,3] [3] (fun(T:LL)(qs:LL)=>[(7,some (.lst 1 (qs.map nA)))]) (fun T _=>[(2,some (.box [.lst 1 (T.map nA)]))]) (fun T qs=>qs.length<=2/\(∀q∈qs,RRq T (dl l a i j0 j) q)/\FP 168 [an T,eN (aV l a j.a j.point),eN (am l a j0 i)] (ao (sX (er l a i j0 j).1) (sX (er l a i j0 j).2))/\fy l a i j0 j=(ia T (dl l a i j0 j) qs qs.length,0)) ?_ ?_ 2
 ·intro K1 J1;refine gC (fun t48=>?_) (fun t48=>?_)
  ·have h2 : ak (aU l a i j0 j) < 0 := by have := bV t48; omega
   refine gR ?_;exact bw (by unfold fy;rw[VP (fun h=>hd0 h.1),VQ h2];exact Sub.tup (.cons (.nil _ _ _) (.cons (.refl _) .nil)))
  have h2:¬ak (aU l a i j0 j)<0:=by
   have h9:=cr t48;have hc:ak (aU l a i j0 j)=-1\/ak (aU l a i j0 j)=0\/ak (aU l a i j0 j)=1:=(mu (aj (llq a.rs)) (llq a.rs).length tw.pos).cs (aU l a i j0 j);omega
  refine gC (fun t50=>?_) (fun t50=>?_)
  ·have h3 : ¬ 0 < ak (aU l a i j0 j) := by have := bV t50; omega
   have R0:RRq (llq a.rs) (dl l a i j0 j) []:=by
    have cs:Cy (llq a.rs) 773000000 1101400000:=⟨⟨64990,tw,by show kB 64990 (llq a.rs).length<=_;have:=uY hn;omega⟩,by omega,by omega,by omega⟩
    have nil0:Nm (llq a.rs).length 773000000 []:=⟨tw.five,.inl rfl,Cb.nil.mono oz⟩
    exact Fb (R := dl l a i j0 j) (j := (llq a.rs).length) cs F.hv F.hp F.vv nil0 (F.zl.nm.mono (by decide)) (F.z3.nm.mono (by decide)) (F.w1.nm.mono (by decide)) (F.w2.nm.mono (by decide))
     (F.y1.nm.mono (by decide)) (F.y2.nm.mono (by decide)) (rN _ _ F.y1.nm).2 (rN _ _ F.y2.nm).2 F.z3.nm.nl (le_refl _) hn (by rw[show ak (dE (llq a.rs) (dl l a i j0 j).d)=ak (cK l a i j0 j)from congrArg ak (bq _ _)];exact hd0)
   exact nE J1 (llq a.rs) ([[]]) ⟨by decide,gS R0,hwy,by unfold fy;rw[VP (fun h=>hd0 h.1),VP h2,VP h3];rfl⟩ (hw:=Wk.of (.cons rfl Ju (.k (.k .nil))) (.k (.k .nil)))
  have h3:0<ak (aU l a i j0 j):=by
   have h9:¬ak (aU l a i j0 j)=0:=cr t50;omega
  have E:ExtP (aU l a i j0 j):=oI tw hn F.zX oz;haveI ce:=E.cy;have zr:Nm (aI (llq a.rs) (sX (aU l a i j0 j))).length 773000000 (cc (llq a.rs).length):=(n8 oz).mono (by decide);haveI zrl:Zl (aI (llq a.rs) (sX (aU l a i j0 j))) 773000000 1101400000 (cc (llq a.rs).length) (bK (aU l a i j0 j)) 1 0:=Zl.at zr (by decide);haveI:=zrl.zu;have zn:Nm (aI (llq a.rs) (sX (aU l a i j0 j))).length 773000000 (sX (-bK (aU l a i j0 j))):=(inferInstance:Zu 773000000 1101400000 (-bK (aU l a i j0 j)) 1 0).nm.mono (by decide)
  have hR:∀q,Nm (aI (llq a.rs) (sX (aU l a i j0 j))).length 773000000 q->RRq (aI (llq a.rs) (sX (aU l a i j0 j))) (dl l a i j0 j) q:=fun q nq =>
   Fb (R := dl l a i j0 j) (j := (llq a.rs).length) ce F.hv F.hp F.vv nq (fH (F.zl.nm.mono (by decide)) oz) (fH (F.z3.nm.mono (by decide)) oz) (fH (F.w1.nm.mono (by decide)) oz) (fH (F.w2.nm.mono (by decide)) oz)
    (fH (F.y1.nm.mono (by decide)) oz) (fH (F.y2.nm.mono (by decide)) oz) (nB hn _ _ F.y1.nm).2 (nB hn _ _ F.y2.nm).2 F.z3.nm.nl (by rw[ep];omega) hn (by rw[show ak (dE (aI (llq a.rs) (sX (aU l a i j0 j))) (dl l a i j0 j).d)=ak (cK l a i j0 j)from tT];exact hd0)
  have R1:=hR _ zr;have R2:=hR _ zn;have hex:=EG (a:=sX (aU l a i j0 j)) tw F.zX.nm (by rw[hlm];decide) (by rw[show ad (llq a.rs).length (sX (aU l a i j0 j))=aU l a i j0 j from bq _ _];show 0<=ak (aU l a i j0 j);omega);haveI zn0:Zl (aI (llq a.rs) (sX (aU l a i j0 j))) 773000000 1101400000 [] (0:Et (aI (llq a.rs) (sX (aU l a i j0 j)))) 0 0:=tE;have hmn:=Con.sA (.cons (.refl _) (.cons (Sub.nil 3 none 0) (.cons (.refl _) .nil))) (FZ (ts:=aI (llq a.rs) (sX (aU l a i j0 j))) (u:=773000000) (k:=1101400000) (a:=[]) (b:=cc (llq a.rs).length) (by decide));rw[show(0:Et (aI (llq a.rs) (sX (aU l a i j0 j))))-bK (aU l a i j0 j)=-bK (aU l a i j0 j) by grind]at hmn;haveI u1:=gM (X:=aU l a i j0 j) hn y3 (by decide);haveI u2:=gM (X:=aU l a i j0 j) hn y4 (by decide);haveI u3:=gM (X:=aU l a i j0 j) hn y1 (by decide);haveI u4:=gM (X:=aU l a i j0 j) hn y2 (by decide);have hwX:=AU (ts:=aI (llq a.rs) (sX (aU l a i j0 j))) (u:=773000000) (k:=1101400000) (a:=sX (aV l a j.a j.point).1) (b:=sX (aV l a j.a j.point).2) (a2:=sX (am l a j0 i).1) (b2:=sX (am l a j0 i).2) 773000000 (by decide) (by decide) (by decide) (by decide) (by decide);rw[<- C9,<- C9]at hwX;rw[show sX (aQ (aU l a i j0 j) ((aV l a j.a j.point).1-(am l a j0 i).1))=sX (er l a i j0 j).1 from(nB hn _ _ F.w1.nm).2,show sX (aQ (aU l a i j0 j) ((aV l a j.a j.point).2-(am l a j0 i).2))=sX (er l a i j0 j).2 from(nB hn _ _ F.w2.nm).2]at hwX;refine gc hex ?_;refine gC (fun t40=>?_) (fun t40=>?_) (st1:=(10,0));cases t40;refine gc hmn ?_;refine gD ?_;exact nE J1 (aI (llq a.rs) (sX (aU l a i j0 j))) ([cc (llq a.rs).length,sX (-bK (aU l a i j0 j))]) ⟨le_refl 2,jQ R1 R2,hwX,by unfold fy;rw[VP (fun h=>hd0 h.1),VP h2,VQ h3];rfl⟩
 rintro T qs ⟨hql,hq,hwT,hR⟩;refine gc hwT ?_;refine gl ?_;refine gW (Wk.virt 900 3 rfl) ?_;refine aN [2,3,7,11,59,60] [2,3,11] (fun(q:Nat)=>[(12,some (.ms 900 3 0 q)),(61,some (i64 q))]) (fun q=>[(900,some (.row 3 (ia T (dl l a i j0 j) qs q)))]) (fun q=>q<=qs.length) (fun q=>qs.length-q) 0 (zero_le _) ?_;rintro q hqi K2 J2;refine gC (fun t62=>?_) (fun t62=>?_) (st2:=(25,0))
 ·have hin:=aT t62;obtain ⟨x,hx⟩:=az hin;have hx9:qs.getD q [] = x:=aO hx;have R:=hq x (mem_of_getElem? hx);refine gi (ay hx) ?_;refine gc R.c1 ?_;refine gc R.qt ?_;refine gc R.c2 ?_;refine gc R.sb ?_;refine gD ?_;refine gc (uG 1 oz) ?_;refine gc R.ov ?_;refine gc R.c3 ?_;refine gD ?_;refine gc R.put ?_;refine gl ?_;refine gc (Ak q qs.length oz) ?_;refine gs (bO (.tmp rfl) rfl (rc _ _ _ _).symm (.tmp rfl) T54 rfl T62 rfl rfl (by dsimp only; simp only [length_cons,length_nil]; omega) rfl rfl) ?_;refine gD ?_ (24,0);refine gW (Wk.of (sl:=[(2,some (.ptr 2 0)),(3,some (.ptr 3 0)),(7,some (.lst 1 (qs.map nA))),(11,some (.ptr 11 0)),(12,some (.ms 105 3 0 (q + 1))),(59,some (.lst 1 (qs.map nA))),(60,some (i64 qs.length)),(61,some (i64 q))]) (hp:=[(2,some (.box [.lst 1 (T.map nA)])),(3,some (.box (qe l a i j0 j))),(11,some (.box [nA (sX (er l a i j0 j).1),nA (sX (er l a i j0 j).2)])),(105,some (.row 3 (ia T (dl l a i j0 j) qs (q + 1))))]) aR (.k (.k (.k (.cons rfl (BlkSub.of (by rw [FC]; unfold kj; rw [hx9]; rfl)) .nil))))) ?_ (24,0)
  refine gW (Wk.rk (k:=105) (d:=900) rfl rfl) ?_;refine ga aE ?_;exact aH J2 (q+1) hin
 have hin:=a8 hqi t62;subst hin;refine gW ((Wk.freeze (k:=900) rfl).trans<|Wk.of (sl:=[(12,some (.lst 3 (ia T (dl l a i j0 j) qs qs.length)))]) (hp:=[]) (.cons rfl (Sub.of (by rw[bD (rc _ _ _ _).symm])) .nil) .nil) ?_;refine bf ?_;rw[hR];rfl
theorem UP{l:Li}{k:Int}{a:As}{own:Bool}(hli:aG l=0)(hs:cA l=0)(hk:¬(k<0\/((aK l).length:Int)<=k))(hb:a.bs.length=l.bo.length)(hc:bc a.rs=0){g:Gr}(hg:fI l k=g)(hgo:GrOk l g) :
  gK l k a own=dh ((List.range l.bo.length).map (mw l g a own)):=by
 rw[Ao hs hk hb hc,hg,To hli hgo]
theorem Ay{n i:Nat}(h:i<n):(List.range n)[i]?=some i:=List.getElem?_range h
theorem NQ{l:Li}{g:Gr}{a:As}{own:Bool}{i:Nat}{p:Pl}(h:decide ((i:Int)∈bZ l g own)=true)(hp:a.bs[i]?=some p):mw l g a own i=aZ a.rs p.l:=by
 unfold mw eT;rw[VQ (of_decide_eq_true h),VP oz,toNat_natCast,aO hp]
theorem Vw{l:Li}{g:Gr}{a:As}{own:Bool}{i:Nat}(h:decide ((i:Int)∈bZ l g own)=false):mw l g a own i=0:=VP (of_decide_eq_false h)
theorem Ra(l:Li)(hl:l.ok)(hli:aG l=0)(k:Int)(a:As)(al:AB a)(own:Bool):FP 200 [l.av,i64 k,a.av,bl own] (i64 (gK l k a own)):=by
 have hbl:=al.bl;have hlb:=(dp hli).2.2.2.1;refine af func200 ?_;refine gc (m9 l hl hli) ?_;refine gC (fun t28=>?_) (fun t28=>?_)
 ·have h1:=dY t28;refine ae ?_;rw[Sp h1]
 have h1:=dD t28;refine bS ?_;refine gC (fun t32=>?_) (fun t32=>?_)
 ·have h2:=yU t32;refine ae ?_;rw[Dy h1 h2];rfl
 have h2:=yr t32;refine gl ?_;refine gl ?_;refine gC (fun t41=>?_) (fun t41=>?_)
 ·have h3:=qr t41;refine ae ?_;rw[Ez h1 h2 h3];rfl
 have h3:=qQ t41;refine gc (Con.sA (.cons (.refl _) (.cons (Sub.nil 1 none 0) .nil)) (Jn a.rs 400000000 0 al.tr [] (fun x hx=>by cases hx) (zero_le _) (by show 0<=1000;omega))) ?_;refine gC (fun t53=>?_) (fun t53=>?_)
 ·have h4:=dY t53;rw[xG]at h4;refine ae ?_;rw[DA h1 h2 h3 h4,xG]
 have h4:=dD t53;rw[xG]at h4;obtain⟨i,rfl,hi⟩:=zF h2;obtain⟨g,hg⟩:=az hi;obtain⟨hgd,hgo⟩:=nV hli (mem_of_getElem? hg);have hgA:fI l (i:Nat)=g:=aO hg;have hE:=UP (own:=own) hli h1 h2 h3 h4 hgA hgo;have hgb:=hgo.lb;have hgj:=hgo.lj;have hal:=kN l g;refine gl ?_;refine gs (fD (.tmp rfl) T218 rfl T4 rfl rfl oz (by dsimp only;omega) rfl) ?_ (12,0);refine gW (Wk.of (sl:=[(1,some (i64 i)),(3,some (bl own)),(4,some (.ptr 4 0)),(6,some (.ptr 6 0)),(9,some (.lst 4 ((aK l).map Gr.av))),(12,some (.ms 58 1 0 l.bo.length))]) (hp:=[(4,some (.box l.av.cells)),(6,some (.box a.av.cells)),(58,some (.row 1 ((d5 l.bo.length []).map bl)))]) (.k (.k (.k (.k (.k (.cons rfl (Sub.of (by rw[toNat_natCast])) .nil)))))) (.k (.k (.cons rfl (BlkSub.of (by rw[Vx,map_replicate];simp only[toNat_natCast];rfl)) .nil)))) ?_ (12,0)
 refine gW (Wk.rk (k:=58) (d:=900) rfl rfl) ?_;refine gi (ay hg) ?_;refine gc (Tx l hl g hgo) ?_;refine gD ?_;refine gl ?_;refine aN [1,3,6,9,68,69] [6] (fun(j:Nat)=>[(12,some (.ms 900 1 0 l.bo.length)),(70,some (i64 j))]) (fun j=>[(900,some (.row 1 ((d5 l.bo.length ((cw l g).take j)).map bl)))]) (fun j=>j<=(cw l g).length) (fun j=>(cw l g).length-j) 0 (zero_le _) ?_;rintro j hj K1 J1;refine gC (fun t71=>?_) (fun t71=>?_) (st2:=(19,0))
 ·have hjn:=aT t71;obtain⟨b,hb⟩:=az hjn;have hbr:=HO hli hgo b (mem_of_getElem? hb);refine gi (ay hb) ?_;refine gC (fun t75=>?_) (fun t75=>?_)
  ·have hb0 : 0 <= b := by have := of_decide_eq_true (p := b >= 0) t75; omega
   have hst:d5 l.bo.length ((cw l g).take (j+1))=(d5 l.bo.length ((cw l g).take j)).set b.toNat true:=by rw[cD hb];exact Vt hb0 hbr
   have hv:=qz (n:=l.bo.length) (i:=b.toNat) oz ((cw l g).take j);refine gs (jv (.tmp rfl) (.tmp rfl) T218 rfl T4 rfl oz oz rfl) ?_;refine gs (cO (.tmp rfl) rfl (by rw[Nat.zero_add,getElem?_map,hv];rfl) rfl (.const _) rfl rfl T4 rfl rfl) ?_;refine ga aE ?_;exact aH J1 (j+1) hjn (hw:=Wk.of aR (.cons rfl (BlkSub.of (by rw[hst];first |done |(rw[map_set,Nat.zero_add];rfl))) (.k .nil)))
  have hb0:b<0:=by have:=of_decide_eq_false (p:=b>=0) t75;omega
  have hst:d5 l.bo.length ((cw l g).take (j+1))=d5 l.bo.length ((cw l g).take j):=by rw[cD hb];exact Ts hb0
  refine ga aE ?_;exact aH J1 (j+1) hjn (hw:=Wk.of aR (.cons rfl (BlkSub.of (by rw[hst];first |done |(rw[map_set,Nat.zero_add];rfl))) (.k .nil)))
 have hjn:=a8 hj t71;subst hjn;refine gW (Wk.of (sl:=[(1,some (i64 i)),(3,some (bl own)),(6,some (.ptr 6 0)),(9,some (.lst 4 ((aK l).map Gr.av))),(12,some (.ms 900 1 0 l.bo.length))]) (hp:=[(6,some (.box a.av.cells)),(900,some (.row 1 ((d5 l.bo.length (cw l g++(if own=true then g.bo.take 0 else[]))).map bl)))]) aR (.k (.cons rfl (BlkSub.of (by rw[take_length];cases own <;> simp)) .nil))) ?_;refine gi (ay hg) ?_;refine gl ?_;refine aN [3,6,84,85] [6] (fun(q:Nat)=>[(12,some (.ms 900 1 0 l.bo.length)),(86,some (i64 q))]) (fun q=>[(900,some (.row 1 ((d5 l.bo.length (cw l g++(if own=true then g.bo.take q else[]))).map bl)))]) (fun q=>q<=g.bo.length) (fun q=>g.bo.length-q) 0 (zero_le _) ?_;rintro q hq K2 J2;refine gC (fun t87=>?_) (fun t87=>?_) (st2:=(24,0))
 ·have hqn:=aT t87;obtain⟨b,hb⟩:=az hqn;obtain⟨hb0,hbr⟩:=hgo.b b (mem_of_getElem? hb);have hst:=Qq (n:=l.bo.length) (xs:=cw l g) (own:=own) hb hb0 hbr;have hv:=qz (n:=l.bo.length) (i:=b.toNat) oz (cw l g++(if own=true then g.bo.take q else[]));rw[show((b.toNat:Nat):Int)=b by omega]at hv;refine gi (ay hb) ?_;refine gs (jv (.tmp rfl) (.tmp rfl) T218 rfl T4 rfl oz oz rfl) ?_;refine gs (dR (.tmp rfl) rfl (by rw[Nat.zero_add,getElem?_map,hv];rfl) T4 rfl rfl rfl) ?_;refine gs (jv (.tmp rfl) (.tmp rfl) T218 rfl T4 rfl oz oz rfl) ?_;refine gs (cO (.tmp rfl) rfl (by rw[Nat.zero_add,getElem?_map,hv];rfl) rfl (.tmp rfl) rfl rfl T4 rfl rfl) ?_;refine ga aE ?_;exact aH J2 (q+1) hqn (hw:=Wk.of aR (.cons rfl (BlkSub.of (by rw[hst,map_set,Nat.zero_add];rfl)) (.k .nil)))
 have hqn:=a8 hq t87;subst hqn;refine gW ((Wk.freeze (k:=900) rfl).trans<|Wk.of (sl:=[(6,some (.ptr 6 0)),(12,some (.lst 1 ((d5 l.bo.length (bZ l g own)).map bl)))]) (hp:=[(6,some (.box a.av.cells))]) (.k (.cons rfl (Sub.of (by rw[bD (by rw[length_map,q8]),take_length];rfl)) .nil)) (.k .nil)) ?_;refine gl ?_;have hml:(d5 l.bo.length (bZ l g own)).length=l.bo.length:=q8 _ _;refine aN [6,101,102] [6] (fun(m:Nat)=>[(103,some (i64 m))]) (fun _=>[]) (fun m=>m<=(d5 l.bo.length (bZ l g own)).length/\∀c∈(List.range l.bo.length).take m,mw l g a own c=0) (fun m=>(d5 l.bo.length (bZ l g own)).length-m) 0 ⟨zero_le _,fun c hc=>by simp at hc⟩ ?_;rintro m ⟨hm,hmz⟩ K3 J3;refine gC (fun t104=>?_) (fun t104=>?_)
 ·have hmn:=aT t104;have hmn2:m < l.bo.length:=by omega
  have hv:=qz hmn2 (bZ l g own);obtain⟨p,hp⟩:=az (l:=a.bs) (i:=m) oz;refine gi (ay hv) ?_;refine gi (ay hp) ?_;refine gC (fun t113=>?_) (fun t113=>?_)
  ·have hM:=NQ t113 hp;refine gc (Jn a.rs 400000000 50000000000 al.tr p.l (al.nr p (mem_of_getElem? hp)) (B9 _) (by show 4 <= 1000; omega)) ?_;refine gC (fun t127=>?_) (fun t127=>?_)
   ·have h5:=dY t127;refine ae ?_;rw[hE,Bi (Ay hmn2) hmz (by rw[hM];exact h5),hM]
   have h5:=dD t127;have hz:mw l g a own m=0:=hM.trans h5;refine ga aE ?_;exact aH J3 (m+1) ⟨hmn,fun c hc=>by rw[cD (Ay hmn2)]at hc;rcases List.mem_append.1 hc with h9 |h9;exact hmz c h9;(rw[List.mem_singleton.1 h9];exact hz)⟩
  have hz:mw l g a own m=0:=Vw t113;refine ga aE ?_;exact aH J3 (m+1) ⟨hmn,fun c hc=>by rw[cD (Ay hmn2)]at hc;rcases List.mem_append.1 hc with h9 |h9;exact hmz c h9;(rw[List.mem_singleton.1 h9];exact hz)⟩
 have hmn:=a8 hm t104;refine ae ?_;rw[hE,lQ (fun c hc=>hmz c (by rw[hmn,hml,take_of_length_le (by rw[List.length_range];exact le_refl _)];exact hc))];rfl
theorem If{vs:List (Rat×Rat)}(h:eC vs=true):∃v∈vs,bF v v=0:=by
 refine Decidable.byContradiction fun h9=>?_
 have h8:∀v∈vs,bF v v≠0:=fun v hv h0=>h9 ⟨v,hv,h0⟩
 unfold eC at h
 rw[iQ (fun j hj=>by
  obtain⟨v,hv⟩:=az hj;rw[aO hv];simpa using h8 v (mem_of_getElem? hv))]at h
 cases h
theorem qF{ts:LL}{q:Rat}:ak (qE q:Et ts)=0↔q=0:=by
 rw[IV];exact⟨fun h=>lN h,fun h=>by rw[h];rfl⟩
theorem PL{x y:Int}(h:cond (aa .eql x 0) true (aa .eql y 0)=true):x=0\/y=0:=by
 cases h1:aa .eql x 0
 ·rw[h1]at h;exact .inr (bV h)
 ·exact .inl (bV h1)
theorem Tj{x y:Int}(h:cond (aa .eql x 0) true (aa .eql y 0)=false):x≠0/\y≠0:=by
 cases h1:aa .eql x 0
 ·rw[h1]at h;exact⟨cr h1,cr h⟩
 ·rw[h1]at h;cases h
abbrev uk(l:Li)(a:As)(i k:Int)(j0 j1 j2:Jt):List AV :=
  [i64 1,i64 i,i64 k]++(fK (am l a j0 i)++(fK (am l a j1 k)++(ff (ah l j0 i)++(ff (ah l j1 k)++(ff (ah l j2 i)++(ff (ah l j2 k)++(ee++(ee ++
    ([nA (sX (qE (ba (ah l j2 i) (ah l j0 i)):Et (llq a.rs))),nA (sX (qE (ba (ah l j2 k) (ah l j1 k)):Et (llq a.rs)))]++(ee++[nl,nl,nA (sX (au (am l a j1 k) (am l a j0 i)))]))))))))))
theorem Gl(l:Li)(a:As)(i k:Int)(j0 j1 j2:Jt):AV.agg (vT l a i k j0 j1 j2)=.agg (uk l a i k j0 j1 j2):=by
 unfold vT uk;rw[zR,zR]
abbrev sQ(l:Li)(a:As)(i:Int)(j0 j:Jt):List AV :=
  [i64 2,i64 i,i64 0]++(fK (am l a j0 i)++(ee++(ff (ah l j0 i)++(ee++(ff (ax l i j.point)++(ee++(fK (aV l a j.b j.on)++(fK (aV l a j.b j.to) ++
    ([nA (sX (qE (ba (ax l i j.point) (ah l j0 i)):Et (llq a.rs))),nl]++(fK (aW (aV l a j.b j.to) (aV l a j.b j.on))++[nl,nl,nl]))))))))))
theorem G0(l:Li)(a:As)(i:Int)(j0 j:Jt):AV.agg (wn l a i j0 j)=.agg (sQ l a i j0 j):=by
 unfold wn sQ;rw[zR]
theorem Rl{ts:LL}(c s:Et ts):dj (((1:Int):Rat),(0:Rat)) ((c,s):P2 ts)=c/\dk (((1:Int):Rat),(0:Rat)) ((c,s):P2 ts)=s:=by
 have h1:bF (((1:Int):Rat),(0:Rat)) (((1:Int):Rat),(0:Rat))=((1:Int):Rat):=by decide +kernel
 unfold dj dk uK;rw[h1,kG];have h2:(iE (1:Et ts))=1:=GU;rw[h2,TE];exact⟨by show(1*c+0*s)*1=c;grind,by show(1*s-0*c)*1=s;grind⟩
theorem Qj{E:Nat}(hE9:E<=20000000000){l:Li}{a:As}(D:DyW l a)(h3:(llq a.rs).length<=2){n m:Nat}{i:Int}{j0:Jt}(hE:FP 200 [l.av,i64 n,a.av,bl false] (i64 0))(hV:FP 201 [l.av,i64 n,a.av] (.agg (BB l a i j0)))
  (h0:l.jo[m]?=some j0) (p0:PinP E l a j0 i) {x:Tn} (hx:x.t.ok) (hq:Qb 1000 x.t.q):FP 112 [l.av,i64 n,x.av,a.av] (.tup [.lst 3 (je l a i j0 x).1,i64 (je l a i j0 x).2]):=by
 obtain⟨tw,etw⟩:=bN D.al.tr D.hc;have qc:=qS (half:=x.half) hq;have qs:=qM (half:=x.half) hq;have hs0:Sm 1000 (ah l j0 i):=dL D.hl D.li h0 p0.or;obtain⟨y1,y2⟩:=GF hE9 D h3 h0 p0
 have B:RbP (llq a.rs) (((1:Int):Rat),(0:Rat)) ((qE (fv x.half x.t.q),qE (fA x.half x.t.q)):P2 (llq a.rs)) (ah l j0 i) (am l a j0 i) :=
  FL (W := 10000) tw h3 (u7 h3) yN (hs0.mono oz) (by decide +kernel)
   (by show Nm _ _ (sX (qE (fv x.half x.t.q):Et (llq a.rs)));rw[j7];exact(fT tw.five qc).mono oz) (by show Nm _ _ (sX (qE (fA x.half x.t.q):Et (llq a.rs)));rw[j7];exact(fT tw.five qs).mono oz) y1 y2 oz oz
 obtain⟨b1,b2⟩:=Rl (qE (fv x.half x.t.q):Et (llq a.rs)) (qE (fA x.half x.t.q));have htn:=B.tn;have hsb:=B.sb;rw[b1,b2,j7,j7]at htn;rw[b1,b2]at hsb;refine af func112 ?_;refine gc hE ?_;refine gC (fun t26=>?_) (fun t26=>?_) (st1:=(3,0));cases t26;refine gc hV ?_;refine gD ?_ (5,0);refine gW (Wk.of (sl:=[(6,some (.ptr 6 0)),(11,some (.ptr 11 0)),(12,some (.ptr 12 0))]) (hp:=[(6,some (.box x.av.cells)),(11,some (.box [.lst 1 ((llq a.rs).map nA)])),(12,some (.box (BB l a i j0)))]) aR (.k (.cons rfl (BlkSub.bL (.cons (.of (gY etw)) .nil) rfl) (.k .nil)))) ?_;refine gC (fun t55=>?_) (fun t55=>?_) (st2:=(19,0))
 ·refine gc (HP x hx) ?_;refine gC (fun t60=>?_) (fun t60=>?_)
  ·have he:x.err≠0:=dY t60;refine gR ?_;exact bw (by unfold je;rw[VQ he];exact Sub.tup (.cons (.nil _ _ _) (.cons (.refl _) .nil)))
  have he:x.err=0:=dD t60
  have hv:x.t.valid=true:=by
   unfold Tn.err at he;split at he
   ·rename_i h9;exact h9.1
   ·cases he
  have et:x.av=Tn.av ⟨rt x.t.q,x.half⟩:=by rw[<- Rt.eq_rt hx hv]
  have hcs:=S8 x.half hq oz;have hsn:=Tf x.half hq oz;rw[<- et]at hcs hsn;refine gc hcs ?_;refine gc (pO (qc.qs oz)) ?_;refine gc hsn ?_;refine gc (pO (qs.qs oz)) ?_;refine gD ?_;refine gc htn ?_;refine gc hsb ?_;refine gD ?_;refine gD ?_;refine gR ?_;exact bw (Sub.of (by unfold je sC lC;rw[VP oz,b1,b2,j7,j7];rfl))
 cases t55
theorem Su{l:Li}{a:As}(D:DyR l a)(hn:(llq a.rs).length<=1){n:Nat}{i z0 z1:Int}{j0 j:Jt}(hE:FP 200 [l.av,i64 n,a.av,bl false] (i64 0))(hV:FP 201 [l.av,i64 n,a.av] (.agg (qe l a i j0 j)))
  (P:SlP 3900000 l a ⟨3,[i],[z0,z1],0⟩ 3 i z0 z1 j0 j) (hj:j.b=i) (hb:Pd 3900000 a j.a) (x:Tn):FP 112 [l.av,i64 n,x.av,a.av] (.tup [.lst 3 (fy l a i j0 j).1,i64 (fy l a i j0 j).2]):=by
 obtain⟨tw,etw⟩:=bN D.s.tr D.hc;refine af func112 ?_;refine gc hE ?_;refine gC (fun t26=>?_) (fun t26=>?_) (st1:=(3,0));cases t26;refine gc hV ?_;refine gD ?_ (5,0);refine gW (Wk.of (sl:=[(6,some (.ptr 6 0)),(11,some (.ptr 11 0)),(12,some (.ptr 12 0))]) (hp:=[(6,some (.box x.av.cells)),(11,some (.box [.lst 1 ((llq a.rs).map nA)])),(12,some (.box (qe l a i j0 j)))]) aR (.k (.cons rfl (BlkSub.bL (.cons (.of (gY etw)) .nil) rfl) (.k .nil)))) ?_;refine gC (fun t55=>?_) (fun t55=>?_) (st1:=(12,0));cases t55;refine gC (fun t92=>?_) (fun t92=>?_) (st2:=(21,0))
 ·refine gc (Lx D hn P hj hb) ?_;refine bf ?_;rfl
 cases t92
theorem Og{l:Li}{a:As}{k:Int}{E:Nat}(hE:FP 200 [l.av,i64 k,a.av,bl false] (i64 E))(h0:E≠0){x:Tn}:FP 112 [l.av,i64 k,x.av,a.av] (.tup [.lst 3 [],i64 E]):=by
 refine af func112 ?_;refine gc hE ?_;refine gC (fun t26=>?_) (fun t26=>?_) (st2:=(77777,0))
 ·refine gR ?_;exact bw (Sub.tup (.cons (.nil _ _ _) (.cons (.refl _) .nil)))
 exact absurd (dD t26) h0
theorem Q5{l:Li}{a:As}(D:DyR l a)(hn:(llq a.rs).length<=1){n:Nat}{i k z0 z1 z2:Int}{j0 j1 j2:Jt}(hE:FP 200 [l.av,i64 n,a.av,bl false] (i64 0))(hV:FP 201 [l.av,i64 n,a.av] (.agg (uk l a i k j0 j1 j2)))
  (P:RrrP 3900000 l a ⟨1,[i,k],[z0,z1,z2],0⟩ i k z0 z1 z2 j0 j1 j2) (x:Tn):FP 112 [l.av,i64 n,x.av,a.av] (.tup [.lst 3 (j8 l a i k j0 j1 j2).1,i64 (j8 l a i k j0 j1 j2).2]):=by
 haveI c:=D.s.ct D.hc;obtain⟨tw,etw⟩:=bN D.s.tr D.hc;have hq0:=dL D.hl D.li P.h0 P.p0.or;have hq1:=dL D.hl D.li P.h1 P.p1.or;have hq2:=dL D.hl D.li P.h2 P.t1;have hq3:=dL D.hl D.li P.h2 P.t2;obtain⟨y1,y2⟩:=gO D.hl D.li D.al D.s D.hc P.h0 P.p0;obtain⟨y3,y4⟩:=gO D.hl D.li D.al D.s D.hc P.h1 P.p1;haveI q1:=mf hq2 hq0;haveI q2:=mf hq3 hq1;haveI zu1:Zu 310000 65000 (qE (ba (ah l j2 i) (ah l j0 i)):Et (llq a.rs)) 3 0:=inferInstance;haveI zu2:Zu 310000 65000 (qE (ba (ah l j2 k) (ah l j1 k)):Et (llq a.rs)) 3 0:=inferInstance;haveI:=y1;haveI:=y2;haveI:=y3;haveI:=y4
 have g1:=jA (ts:=llq a.rs) (u:=310000) (k:=65000) (a:=sX (qE (ba (ah l j2 i) (ah l j0 i)):Et (llq a.rs)));have g2:=jA (ts:=llq a.rs) (u:=310000) (k:=65000) (a:=sX (qE (ba (ah l j2 k) (ah l j1 k)):Et (llq a.rs)));have hci:=Uf (x:=(am l a j0 i).1) (y:=(am l a j0 i).2) (x2:=(am l a j1 k).1) (y2:=(am l a j1 k).2) (z:=qE (ba (ah l j2 i) (ah l j0 i))) (z2:=qE (ba (ah l j2 k) (ah l j1 k))) tw hn (q9 _ _) (q9 _ _);have hmk:=fun h3=>xF (x:=(am l a j0 i).1) (y:=(am l a j0 i).2) (x2:=(am l a j1 k).1) (y2:=(am l a j1 k).2) (z:=qE (ba (ah l j2 i) (ah l j0 i))) (z2:=qE (ba (ah l j2 k) (ah l j1 k))) tw hn c y1 y2 zu1 y3 y4 zu2 h3
 have hrr:j8 l a i k j0 j1 j2=if eC [bn (ah l j2 i) (ah l j0 i),bn (ah l j2 k) (ah l j1 k)]=true then([],15)else if eA ((am l a j0 i).1,(am l a j0 i).2) ((am l a j1 k).1,(am l a j1 k).2) (qE (ba (ah l j2 i) (ah l j0 i))) (qE (ba (ah l j2 k) (ah l j1 k)))≠0 then([],eA ((am l a j0 i).1,(am l a j0 i).2) ((am l a j1 k).1,(am l a j1 k).2) (qE (ba (ah l j2 i) (ah l j0 i))) (qE (ba (ah l j2 k) (ah l j1 k))))
  else(fa (dQ ((am l a j0 i).1,(am l a j0 i).2) ((am l a j1 k).1,(am l a j1 k).2) (qE (ba (ah l j2 i) (ah l j0 i))) (qE (ba (ah l j2 k) (ah l j1 k)))) [⟨ah l j0 i,P2.l (am l a j0 i),ah l j2 i⟩,⟨ah l j1 k,P2.l (am l a j1 k),ah l j2 k⟩] (dQ ((am l a j0 i).1,(am l a j0 i).2) ((am l a j1 k).1,(am l a j1 k).2) (qE (ba (ah l j2 i) (ah l j0 i))) (qE (ba (ah l j2 k) (ah l j1 k)))).ps.length,0):=rfl
 obtain⟨m,hm⟩:∃m,dQ ((am l a j0 i).1,(am l a j0 i).2) ((am l a j1 k).1,(am l a j1 k).2) (qE (ba (ah l j2 i) (ah l j0 i))) (qE (ba (ah l j2 k) (ah l j1 k)))=m:=⟨_,rfl⟩
 obtain⟨e,he⟩:∃e,eA ((am l a j0 i).1,(am l a j0 i).2) ((am l a j1 k).1,(am l a j1 k).2) (qE (ba (ah l j2 i) (ah l j0 i))) (qE (ba (ah l j2 k) (ah l j1 k)))=e:=⟨_,rfl⟩
 rw[hm]at hci hmk hrr;rw[he]at hci hmk hrr;rw[hrr];refine af func112 ?_;refine gc hE ?_;refine gC (fun t26=>?_) (fun t26=>?_) (st1:=(3,0));cases t26;refine gc hV ?_;refine gD ?_ (5,0);refine gW (Wk.of (sl:=[(6,some (.ptr 6 0)),(11,some (.ptr 11 0)),(12,some (.ptr 12 0))]) (hp:=[(6,some (.box x.av.cells)),(11,some (.box [.lst 1 ((llq a.rs).map nA)])),(12,some (.box (uk l a i k j0 j1 j2)))]) aR (.k (.cons rfl (BlkSub.bL (.cons (.of (gY etw)) .nil) rfl) (.k .nil)))) ?_;refine gC (fun t55=>?_) (fun t55=>?_) (st1:=(12,0));cases t55;refine gC (fun t92=>?_) (fun t92=>?_) (st1:=(20,0));cases t92;refine gC (fun t99=>?_) (fun t99=>?_) (st2:=(8,0))
 ·refine gc g1 ?_;refine bM (fun _=>g2) ?_;refine gC (fun t112=>?_) (fun t112=>?_)
  ·have hz:eC [bn (ah l j2 i) (ah l j0 i),bn (ah l j2 k) (ah l j1 k)]=true:=by
    refine Decidable.byContradiction fun h9=>?_
    obtain⟨w1,w2⟩:=xy (Bool.eq_false_iff.2 h9);rcases PL t112 with h |h
    ·exact w1 (qF.1 h)
    ·exact w2 (qF.1 h)
   refine gR ?_;exact bw (by rw[VQ hz];exact Sub.tup (.cons (.nil _ _ _) (.cons (.refl _) .nil)))
  obtain⟨o1,o2⟩:=Tj t112;have w1:bF (bn (ah l j2 i) (ah l j0 i)) (bn (ah l j2 i) (ah l j0 i))≠0:=fun h=>o1 (qF.2 h)
  have w2:bF (bn (ah l j2 k) (ah l j1 k)) (bn (ah l j2 k) (ah l j1 k))≠0:=fun h=>o2 (qF.2 h)
  have hz:¬eC [bn (ah l j2 i) (ah l j0 i),bn (ah l j2 k) (ah l j1 k)]=true:=fun h=>by
   obtain⟨v,hv,h0⟩:=If h;rcases List.mem_cons.1 hv with rfl |hv
   ·exact w1 h0
   ·rw[List.mem_singleton.1 hv]at h0;exact w2 h0
  rw[VP hz];refine gc hci ?_;refine gC (fun t129=>?_) (fun t129=>?_)
  ·have h3:e≠0:=dY t129;refine gR ?_;exact bw (by rw[VQ h3];exact Sub.tup (.cons (.nil _ _ _) (.cons (.refl _) .nil)))
  have h3:e=0:=dD t129;have ok:=hmk h3;have hml:=ok.ln;rw[VP oz];refine gl ?_;refine gW (Wk.virt 900 3 rfl) ?_;refine aN [12,13,132,133] [12,13] (fun(q:Nat)=>[(18,some (.ms 900 3 0 q)),(134,some (i64 q))]) (fun q=>[(900,some (.row 3 (fa m [⟨ah l j0 i,P2.l (am l a j0 i),ah l j2 i⟩,⟨ah l j1 k,P2.l (am l a j1 k),ah l j2 k⟩] q)))]) (fun q=>q<=m.ps.length) (fun q=>m.ps.length-q) 0 (zero_le _) ?_;rintro q hqi K1 J1;refine gC (fun t135=>?_) (fun t135=>?_) (st2:=(33,0))
  ·have hin:=aT t135;obtain ⟨y,hy⟩:=az hin;have hy9:m.ps.getD q ([],[]) = y:=aO hy;have hym:=mem_of_getElem? hy;have H0:=zB ok hym (o:=am l a j0 i) (y1.nm.mono (by decide)) (y2.nm.mono (by decide)) hq0 hq2 w1;have H1:=zB ok hym (o:=am l a j1 k) (y3.nm.mono (by decide)) (y4.nm.mono (by decide)) hq1 hq3 w2;have hpl:=LY H0 H1;rw [Gl] at hpl;refine gi (ay hy) ?_;refine gc hpl ?_;refine gl ?_;refine gc (Ak q m.ps.length oz) ?_;refine gs (bO (.tmp rfl) rfl (lZ _ _ _).symm (.tmp rfl) T54 rfl T62 rfl rfl (by dsimp only; simp only [length_cons,length_nil]; omega) rfl rfl) ?_;refine gD ?_ (32,0);refine gW (Wk.of (sl:=[(12,some (.ptr 12 0)),(13,some (.ptr 13 0)),(18,some (.ms 154 3 0 (q + 1))),(132,some (.lst 2 (m.ps.map bJ))),(133,some (i64 m.ps.length)),(134,some (i64 q))]) (hp:=[(12,some (.box (uk l a i k j0 j1 j2))),(13,some (.box [.lst 1 (m.ts.map nA),.lst 2 (m.ps.map bJ)])),(154,some (.row 3 (fa m [⟨ah l j0 i,P2.l (am l a j0 i),ah l j2 i⟩,⟨ah l j1 k,P2.l (am l a j1 k),ah l j2 k⟩] (q + 1))))]) aR (.k (.k (.cons rfl (BlkSub.of (by rw [Ab]; unfold kv; rw [hy9]; rfl)) .nil)))) ?_ (32,0)
   refine gW (Wk.rk (k:=154) (d:=900) rfl rfl) ?_;refine ga aE ?_;exact aH J1 (q+1) hin
  have hin:=a8 hqi t135;subst hin;refine gW ((Wk.freeze (k:=900) rfl).trans<|Wk.of (sl:=[(18,some (.lst 3 (fa m [⟨ah l j0 i,P2.l (am l a j0 i),ah l j2 i⟩,⟨ah l j1 k,P2.l (am l a j1 k),ah l j2 k⟩] m.ps.length)))]) (hp:=[]) (.cons rfl (Sub.of (by rw[bD (lZ _ _ _).symm])) .nil) .nil) ?_;refine bf ?_;rfl
 cases t99
theorem JT{l:Li}{a:As}(D:DyR l a)(hn:(llq a.rs).length<=1){n:Nat}{i z0 z1:Int}{j0 j:Jt}(hE:FP 200 [l.av,i64 n,a.av,bl false] (i64 0))(hV:FP 201 [l.av,i64 n,a.av] (.agg (sQ l a i j0 j)))
  (P:SlP 3900000 l a ⟨2,[i],[z0,z1],0⟩ 2 i z0 z1 j0 j) (ha:j.a=i) (hb:Pd 3900000 a j.b) (x:Tn):FP 112 [l.av,i64 n,x.av,a.av] (.tup [.lst 3 (jR l a i j0 j).1,i64 (jR l a i j0 j).2]):=by
 haveI c:=D.s.ct D.hc;obtain⟨tw,etw⟩:=bN D.s.tr D.hc;obtain⟨i1,i2,i3,i4,i5⟩:=dm D.li P.h1;have hq2:Sm 1000 (ax l i j.point):=by rw[<- ha];exact gI D.hl D.li i1 i3
 have hq0:=dL D.hl D.li P.h0 P.p0.or;obtain⟨y1,y2⟩:=gO D.hl D.li D.al D.s D.hc P.h0 P.p0;obtain⟨y3,y4⟩:=gV D.hl D.li D.al D.s D.hc i2 i4 hb;obtain⟨y5,y6⟩:=gV D.hl D.li D.al D.s D.hc i2 (i5 P.hk) hb;haveI q1:=mf hq2 hq0;haveI zu1:Zu 310000 65000 (qE (ba (ax l i j.point) (ah l j0 i)):Et (llq a.rs)) 3 0:=inferInstance;have g1:=jA (ts:=llq a.rs) (u:=310000) (k:=65000) (a:=sX (qE (ba (ax l i j.point) (ah l j0 i)):Et (llq a.rs)));have hci:=U2 (c:=am l a j0 i) (p:=aV l a j.b j.on) (q:=aV l a j.b j.to) (z:=qE (ba (ax l i j.point) (ah l j0 i))) tw hn y3 y4 y5 y6 y1 y2 zu1 (q9 _ _);have hmk:=fun h3=>Bk (o:=am l a j0 i) (p:=aV l a j.b j.on) (q:=aV l a j.b j.to) (z:=qE (ba (ax l i j.point) (ah l j0 i))) tw hn c y1 y2 y3 y4 y5 y6 zu1 h3
 unfold jR;obtain⟨m,hm⟩:∃m,eG (aV l a j.b j.on) (aV l a j.b j.to) (am l a j0 i) (qE (ba (ax l i j.point) (ah l j0 i)))=m:=⟨_,rfl⟩
 obtain⟨e,he⟩:∃e,fw (aV l a j.b j.on) (aV l a j.b j.to)=e:=⟨_,rfl⟩
 rw[hm]at hci hmk;rw[he]at hci hmk;rw[hm,he];refine af func112 ?_;refine gc hE ?_;refine gC (fun t26=>?_) (fun t26=>?_) (st1:=(3,0));cases t26;refine gc hV ?_;refine gD ?_ (5,0);refine gW (Wk.of (sl:=[(6,some (.ptr 6 0)),(11,some (.ptr 11 0)),(12,some (.ptr 12 0))]) (hp:=[(6,some (.box x.av.cells)),(11,some (.box [.lst 1 ((llq a.rs).map nA)])),(12,some (.box (sQ l a i j0 j)))]) aR (.k (.cons rfl (BlkSub.bL (.cons (.of (gY etw)) .nil) rfl) (.k .nil)))) ?_;refine gC (fun t55=>?_) (fun t55=>?_) (st1:=(12,0));cases t55;refine gC (fun t92=>?_) (fun t92=>?_) (st1:=(20,0));cases t92;refine gC (fun t99=>?_) (fun t99=>?_) (st1:=(22,0));cases t99;refine gc g1 ?_;refine gC (fun t40=>?_) (fun t40=>?_)
 ·have hz:eC [bn (ax l i j.point) (ah l j0 i)]=true:=by
   refine Decidable.byContradiction fun h9=>?_
   exact vf (Bool.eq_false_iff.2 h9) (qF.1 (bV t40))
  refine gR ?_;exact bw (by rw[VQ hz];exact Sub.tup (.cons (.nil _ _ _) (.cons (.refl _) .nil)))
 have w1:bF (bn (ax l i j.point) (ah l j0 i)) (bn (ax l i j.point) (ah l j0 i))≠0:=fun h=>cr t40 (qF.2 h)
 have hz:¬eC [bn (ax l i j.point) (ah l j0 i)]=true:=fun h=>by
  obtain⟨v,hv,h0⟩:=If h;rw[List.mem_singleton.1 hv]at h0;exact w1 h0
 rw[VP hz];refine gc hci ?_;refine gC (fun t129=>?_) (fun t129=>?_)
 ·have h3:e≠0:=dY t129;refine gR ?_;exact bw (by rw[VQ h3];exact Sub.tup (.cons (.nil _ _ _) (.cons (.refl _) .nil)))
 have h3:e=0:=dD t129;have ok:=hmk h3;have hml:=ok.ln;rw[VP oz];refine gl ?_;refine gW (Wk.virt 900 3 rfl) ?_;refine aN [12,13,132,133] [12,13] (fun(q:Nat)=>[(18,some (.ms 900 3 0 q)),(134,some (i64 q))]) (fun q=>[(900,some (.row 3 (fa m [⟨ah l j0 i,P2.l (am l a j0 i),ax l i j.point⟩] q)))]) (fun q=>q<=m.ps.length) (fun q=>m.ps.length-q) 0 (zero_le _) ?_;rintro q hqi K1 J1;refine gC (fun t135=>?_) (fun t135=>?_) (st2:=(33,0))
 ·have hin:=aT t135;obtain ⟨y,hy⟩:=az hin;have hy9:m.ps.getD q ([],[]) = y:=aO hy;have hym:=mem_of_getElem? hy;have H0:=zB ok hym (o:=am l a j0 i) (y1.nm.mono (by decide)) (y2.nm.mono (by decide)) hq0 hq2 w1;have hpl:=MR H0;rw [G0] at hpl;refine gi (ay hy) ?_;refine gc hpl ?_;refine gl ?_;refine gc (Ak q m.ps.length oz) ?_;refine gs (bO (.tmp rfl) rfl (lZ _ _ _).symm (.tmp rfl) T54 rfl T62 rfl rfl (by dsimp only; simp only [length_cons,length_nil]; omega) rfl rfl) ?_;refine gD ?_ (32,0);refine gW (Wk.of (sl:=[(12,some (.ptr 12 0)),(13,some (.ptr 13 0)),(18,some (.ms 154 3 0 (q + 1))),(132,some (.lst 2 (m.ps.map bJ))),(133,some (i64 m.ps.length)),(134,some (i64 q))]) (hp:=[(12,some (.box (sQ l a i j0 j))),(13,some (.box [.lst 1 (m.ts.map nA),.lst 2 (m.ps.map bJ)])),(154,some (.row 3 (fa m [⟨ah l j0 i,P2.l (am l a j0 i),ax l i j.point⟩] (q + 1))))]) aR (.k (.k (.cons rfl (BlkSub.of (by rw [Ab]; unfold kv; rw [hy9]; rfl)) .nil)))) ?_ (32,0)
  refine gW (Wk.rk (k:=154) (d:=900) rfl rfl) ?_;refine ga aE ?_;exact aH J1 (q+1) hin
 have hin:=a8 hqi t135;subst hin;refine gW ((Wk.freeze (k:=900) rfl).trans<|Wk.of (sl:=[(18,some (.lst 3 (fa m [⟨ah l j0 i,P2.l (am l a j0 i),ax l i j.point⟩] m.ps.length)))]) (hp:=[]) (.cons rfl (Sub.of (by rw[bD (lZ _ _ _).symm])) .nil) .nil) ?_;refine bf ?_;rfl
theorem RF{l:Li}(hl:l.ok)(hli:aG l=0)(k:Int){x:Tn}(hx:x.t.ok)(hq:Qb 1000 x.t.q)(a:As)(al:AB a)(h3:bc a.rs=0->(llq a.rs).length<=2){E:Nat}(hE9:E<=20000000000)(hs:qj E l k a false)(hR:fe l k a false=0->(fI l k).kind≠0->E=3900000/\DyS a) :
  FP 112 [l.av,i64 k,x.av,a.av] (.tup [.lst 3 (oi l k x a).1,i64 (oi l k x a).2]):=by
 have hE:=Ra l hl hli k a al false;rw[<- ol hli]at hE;unfold oi
 by_cases h0:fe l k a false=0
 ·obtain⟨n,g,ok⟩:=Ad hs h0;have D:DyW l a:=⟨hl,hli,al,ok.chk⟩
  have hgA:fI l k=g:=by unfold fI;rw[ok.hk,toNat_natCast];exact aO ok.hg
  have hG:=ok.hg;have hgo:=ok.ok;have hR:=hR h0;rw[hgA]at hR;rw[VQ h0,hgA];rw[h0]at hE;rw[ok.hk]at hE ⊢;unfold iU
  by_cases hk0:g.kind=0
  ·obtain⟨i,z0,d,j0,e,hj0,p0⟩:=wm ok hk0;subst e;rw[VQ rfl];show il _ _ _ (.tup [.lst 3 (je l a i (l.jo.getD z0.toNat default) x).1,i64 (je l a i (l.jo.getD z0.toNat default) x).2]);rw[aO hj0];exact Qj hE9 D (h3 ok.chk) hE (OZ hE9 D (h3 ok.chk) hG hgo hj0 p0) hj0 p0 hx hq
  ·rw[VP hk0];obtain⟨hE0,S⟩:=hR hk0;subst hE0;have D:DyR l a:=⟨D,S⟩
   have hn1:=S.one D.hc
   by_cases hk1:g.kind=1
   ·obtain⟨i,k2,z0,z1,z2,j0,j1,j2,P⟩:=ok.rrr hk1;obtain⟨e0,e1,e2,b0,b1,_⟩:=P.at;rw[VQ hk1,e0,e1,e2,b0,b1];have e:=P.eq;subst e;have hV:=Q0 D hG hgo P ok.ne;rw[Gl]at hV;exact Q5 D hn1 hE hV P x
   ·rw[VP hk1]
    by_cases hk2:g.kind=2
    ·obtain⟨i,z0,z1,j0,j,P,ha,hb⟩:=ok.pr hk2;obtain⟨e0,e1,b0,_⟩:=P.at;rw[VQ hk2,e0,e1,b0];have e:=P.eq;subst e;have hV:=Rs D hG hgo P ha hb;rw[G0]at hV;exact JT D hn1 hE hV P ha hb x
    ·obtain⟨i,z0,z1,j0,j,P,_,hj,hb⟩:=ok.rp hk0 hk1 hk2;obtain⟨e0,e1,b0,hk3⟩:=P.at;rw[VP hk2,e0,e1,b0];have e:=P.eq;subst e;have hV:=Vj D hG hgo P hj hb;rw[Es]at hV;exact Su D hn1 hE hV P hj hb x
 ·rw[VP h0];exact Og hE h0
section
variable{l:Li}{xs:List Tn}{s g:Nat}(W:WkC l xs s g){k:Nat}{gr:Gr}(hg:(aK l)[k]?=some gr){j r E:Nat}{a:Aq}(Q:QInv l j r E a){n y:Nat}(ok:eD s g (n+1) y j r E=true)(hy:gr.kind≠0->0<y)
include W hg Q ok hy
theorem TG:FP 112 [l.av,i64 k,(bW gr xs).av,a.av] (.tup [.lst 3 ((eM l a.as gr (bW gr xs)).map Sv.av),i64 (jM l a.as gr (bW gr xs))]):=by
 obtain⟨F,hF,hs,al,h3,hR⟩:=CX W hg Q ok hy;have hgA:fI l (k:Nat)=gr:=aO hg;have h:=RF W.hl W.li k (W.tn hg).1 (W.tn hg).2.1 a.as al (fun _=>h3) hF hs (fun _ h=>hR (by rw[hgA]at h;exact h));rw[DO W hg Q ok hy,a.as_av]at h;exact h
end
theorem WkSt.refS{l:Li}{xs:List Tn}{s g n:Nat}(W:WkC l xs s g){a:Aq}(h:WkSt l s g (n+1) a){gr:Gr}(hg:(aK l)[a.ms.length]?=some gr) :
  FP 112 [l.av,i64 a.ms.length,(bW gr xs).av,a.av] (.tup [.lst 3 ((eM l a.as gr (bW gr xs)).map Sv.av),i64 (jM l a.as gr (bW gr xs))]):=by
 obtain⟨⟨j,r,E,y,Q,ok,hc⟩,hl⟩:=h;rw[mt hg,List.countP_cons]at hc
 exact TG W hg Q ok (fun hk=>by
  have:jU gr=true:=decide_eq_true hk;rw[VQ this]at hc;omega)
theorem Gg(l:Li)(hl:l.ok)(hli:aG l=0)(xs:List Tn)(hx:∀x∈xs,x.t.ok)(hn:xs.length<=100) :
  FP 34 [l.av,.lst 4 (xs.map Tn.av)] (i64 (cP l xs)):=by
 have hld:=hl.ld;refine af func34 ?_;refine gc (m9 l hl hli) ?_;refine gC (fun t16=>?_) (fun t16=>?_)
 ·have h1:cA l≠0:=dY t16;refine ae ?_;rw[F0 (VQ hli) h1]
 have hsp:cA l=0:=dD t16;refine gl ?_;refine gl ?_;refine gC (fun t23=>?_) (fun t23=>?_)
 ·have h2:=qr t23;refine ae ?_;rw[vY hli hsp,VQ h2];rfl
 have h2:=qQ t23;have he0:cP l xs=dh (xs.map Tn.err):=by rw[vY hli hsp,VP oz]
 refine gl ?_;refine aN [24,25] [] (fun(i:Nat)=>[(26,some (i64 i))]) (fun _=>[]) (fun i=>i<=xs.length/\∀y∈xs.take i,y.err=0) (fun i=>xs.length-i) 0 ⟨zero_le _,fun y hy=>by simp at hy⟩ ?_;rintro i ⟨hi,hz⟩ K1 J1;refine gC (fun t27=>?_) (fun t27=>?_)
 ·have hin:=aT t27;obtain⟨x,hxi⟩:=az hin;refine gi (ay hxi) ?_;refine gc (HP x (hx x (mem_of_getElem? hxi))) ?_;refine gC (fun t33=>?_) (fun t33=>?_)
  ·have h3:x.err≠0:=dY t33;refine ae ?_;rw[he0,Bi hxi hz h3]
  have h3:x.err=0:=dD t33;refine ga aE ?_;exact aH J1 (i+1) ⟨hin,fun z hz2=>by rw[cD hxi]at hz2;rcases List.mem_append.1 hz2 with h9 |h9;exact hz z h9;(rw[List.mem_singleton.1 h9];exact h3)⟩
 have hin:=a8 hi t27;refine ae ?_;rw[he0,lQ (fun y hy=>hz y (by rw[hin,take_length];exact hy))];rfl
theorem SG{xs:List Tn}{g:Gr}(hd:g.kind=0->0<=g.driver/\g.driver<xs.length)(hl:xs.length<=100) :
  FP 113 [g.av,.lst 4 (xs.map Tn.av)] (bW g xs).av:=by
 refine af func113 ?_;refine gC (fun t7=>?_) (fun t7=>?_)
 ·have hk : g.kind = 0 := by simpa [aa] using t7
  obtain⟨h0,h1⟩:=hd hk;obtain⟨x,hx⟩:=az (l:=xs) (i:=g.driver.toNat) oz;refine gi (dg (n:=g.driver.toNat) oz hx) ?_;refine gR ?_;exact bw (by unfold bW;rw[VQ hk,aO hx];exact .refl _)
 have hk:g.kind≠0:=by simpa[aa]using t7
 refine gR ?_;exact bw (by unfold bW;rw[VP hk];exact Sub.agg (.cons (.refl _) (.cons (Sub.nil _ _ _) (.cons (Sub.nil _ _ _) (.cons (.refl _) .nil)))) rfl)
theorem KY{l:Li}(h0:0<l.bo.length)(hl:l.bo.length<=100):FP 110 [l.av] (eS l).av:=by
 refine af func110 ?_;refine gl ?_;refine gs (fD (.tmp rfl) T38 rfl T69 rfl rfl oz (by dsimp only;omega) rfl) ?_ (2,0);refine gW (Wk.of (sl:=[(2,some (.ptr 2 0)),(3,some (.ptr 3 0))]) (hp:=[(2,some (.box [nS,nS,nS])),(3,some (.box [nS,.ms 7 4 0 l.bo.length,nS])),(7,some (.row 4 ((List.replicate l.bo.length oA).map Pq.av)))]) aR (.k (.k (.cons rfl (H9 _) .nil)))) ?_;refine gc Lf ?_;refine gs (bP (n:=0) (.tmp rfl) (.const _) T38 rfl T69 rfl oz oz rfl) ?_;refine gs (cO (.tmp rfl) rfl (by rw[getElem?_map,getElem?_replicate,VQ h0];rfl) rfl (.tmp rfl) rfl rfl T69 rfl rfl) ?_;refine gD ?_ (3,0);refine gW ((Wk.freeze (k:=7) rfl).trans<|Wk.of (sl:=[(2,some (.ptr 2 0)),(3,some (.ptr 3 0))]) (hp:=[(2,some (.box [nS,nS,nS])),(3,some (.box [nS,.lst 4 ((eS l).bs.map Pq.av),nS]))]) aR (.k (.cons rfl (BlkSub.bL (.cons (.refl _) (.cons (Sub.of (by rw[bD (by simp)];unfold eS;rw[map_set];rfl)) (.cons (.refl _) .nil))) rfl) .nil))) ?_;refine gR ?_;exact bw (Sub.agg (.cons (Sub.nil _ _ _) (.cons (.refl _) (.cons (Sub.nil _ _ _) .nil))) rfl)
theorem Ku{a:Aq}{g:Gr}{s:Sv}(hb:∀b∈g.bo,0<=b/\b<a.bs.length)(hl:s.ps.length=g.bo.length)(l1:a.bs.length<=100)(l2:a.ms.length<=100)(l3:g.bo.length<=100):FP 114 [a.av,g.av,s.av] (a.nxt g s).av:=by
 refine af func114 ?_;refine gs (gf T38 rfl T69 rfl rfl rfl) ?_;refine gs (bO (.tmp rfl) rfl rfl (.tmp rfl) T38 rfl T69 rfl rfl (by simp only[length_map];omega) rfl rfl) ?_;refine gs (gf T39 rfl T3 rfl rfl rfl) ?_;refine gs (bO (.tmp rfl) rfl rfl (.tmp rfl) T39 rfl T3 rfl rfl (by simp only[length_map];omega) rfl rfl) ?_;refine gs (bO (.tmp rfl) rfl (by simp) (.tmp rfl) T39 rfl T3 rfl rfl (by simp only[length_map,length_cons,length_nil];omega) rfl rfl) ?_;refine gD ?_ (2,0);refine gW ((Wk.freeze (k:=23) rfl).trans<|Wk.of (sl:=[(3,some (.ptr 3 0)),(4,some (.ptr 4 0)),(5,some (.ptr 5 0)),(6,some (.ptr 6 0)),(7,some (.ptr 7 0))]) (hp:=[(3,some (.box a.cs)),(4,some (.box g.av.cells)),(5,some (.box s.av.cells)),(6,some (.box [nS,nS,nS])),(7,some (.box [.lst 1 (s.ts.map nA),.ms 15 4 0 a.bs.length,.lst 1 ((a.ms++[s.mode]).map i64)])),(15,some (.row 4 ((jx a.bs (g.bo.take 0) (s.ps.take 0)).map Pq.av)))]) aR (.k (.k (.k (.k (.cons rfl (BlkSub.bL (.cons (.refl _) (.cons (Sub.of (congrArg (AV.ms 15 4 0) (by rw[length_map];omega))) (.cons (Sub.of (by rw[bD (by simp)];simp)) .nil))) rfl) (.k .nil))))))) ?_
 refine gl ?_;refine aN [3,4,5,6,7,26,27] [3,4,5,6,7] (fun(i:Nat)=>[(28,some (i64 i))]) (fun i=>[(15,some (.row 4 ((jx a.bs (g.bo.take i) (s.ps.take i)).map Pq.av)))]) (fun i=>i<=g.bo.length) (fun i=>g.bo.length-i) 0 (zero_le _) ?_;rintro i hi K1 J1;refine gC (fun t29=>?_) (fun t29=>?_) (st2:=(7,0))
 ·have hin:=aT t29;obtain⟨b,hbi⟩:=az hin;obtain⟨p,hp⟩:=az (l:=s.ps) (i:=i) oz;obtain⟨hb0,hb1⟩:=hb b (mem_of_getElem? hbi);have hpl:=pI a.bs (g.bo.take i) (s.ps.take i);obtain⟨o,ho⟩:=az (l:=jx a.bs (g.bo.take i) (s.ps.take i)) (i:=b.toNat) oz;refine gi (ay hbi) ?_;refine gi (ay hp) ?_;refine gs (jv (.tmp rfl) (.tmp rfl) T38 rfl T69 rfl oz oz rfl) ?_;refine gs (cO (.tmp rfl) rfl (by rw[Nat.zero_add,getElem?_map,ho];rfl) rfl (.tmp rfl) rfl rfl T69 rfl rfl) ?_;refine gD ?_;refine ga aE ?_;exact aH J1 (i+1) hin (hw:=Wk.of aR (.cons rfl (BlkSub.of (by rw[CO hbi hp,map_set,Nat.zero_add];rfl)) (.k (.k (.k (.k (.k .nil)))))))
 have hin:=a8 hi t29;subst hin;refine gW ((Wk.freeze (k:=15) rfl).trans<|Wk.of (sl:=[(6,some (.ptr 6 0)),(7,some (.ptr 7 0))]) (hp:=[(6,some (.box [nS,nS,nS])),(7,some (.box (a.nxt g s).cs))]) aR (.k (.cons rfl (BlkSub.bL (.cons (.refl _) (.cons (Sub.of (by rw[bD (by rw[length_map,pI])];rw[take_length,take_of_length_le oz];rfl)) (.cons (.refl _) .nil))) rfl) .nil))) ?_;refine ae ?_;rfl
theorem Rt.qbV{r:Rt}{e:Nat}(h:r.ok)(he:1<=e)(hn:val r.num<2^e)(hd:val r.den<2^e):Qb e r.q:=by
 by_cases h0:r.valid=true/\r.num≠[]
 ·obtain⟨h1,h2,h3,h4,h5,h6⟩:=Rt.parts h h0.1 h0.2;refine⟨?_,?_⟩
  ·have : r.q.num.natAbs = val r.num := by rw [h1]; unfold sgn; split <;> omega
   rw[this];exact hn
  ·rw[h2];exact hd
 ·rw[Rt.zero h0];exact Qb.zero.mono he
theorem Gi{l:List Nat}{b e:Nat}(h:¬1<l.length)(hb:l.length=1->ai l 0<=b)(he:b<2^e):val l<2^e:=by
 match l with
 |[]=>exact lt_of_le_of_lt (zero_le b) he
 |[x] =>
  have h1:x<=b:=hb rfl;have h2:val [x]=x:=by simp[val]
  rw[h2];omega
 |_::_::_=>simp at h
theorem BW{r:Rt}(h:r.ok)(hl:kU r=true):Qb 9 r.q:=by
 unfold kU at hl;rw[io,io,io,Bool.not_eq_true',Bool.or_eq_false_iff,Bool.or_eq_false_iff,Bool.or_eq_false_iff]at hl;obtain⟨⟨⟨h1,h2⟩,h3⟩,h4⟩:=hl;have g1:r.num.length<=1:=gp (b:=1) h1;have g2:r.den.length<=1:=gp (b:=1) h2;refine Rt.qbV h oz (Gi (b:=400) oz (fun hh=>?_) (by decide)) (Gi (b:=20) oz (fun hh=>?_) (by decide))
 ·rw[hh]at h3;exact gp (b:=400) h3
 ·rw[hh]at h4;exact gp (b:=20) h4
theorem VK{l:Li}{xs:List Tn}(h:cP l xs=0):aG l=0/\cA l=0/\xs.length=l.dv.length/\∀x∈xs,x.err=0:=by
 unfold cP at h;split at h
 ·rename_i h1;exact absurd h h1
 ·rename_i h1;have h1:=Decidable.not_not.1 h1;unfold rY at h;split at h
  ·rename_i h2;exact absurd h h2
  ·rename_i h2;have h2:=Decidable.not_not.1 h2;split at h
   ·cases h
   ·rename_i h3;exact⟨h1,h2,Decidable.not_not.1 h3,fun x hx=>oD h _ (List.mem_map.2 ⟨x,hx,rfl⟩)⟩
theorem PT(gs:List Gr):gs.countP jU+gs.countP (fun g=>decide (g.kind=0))=gs.length:=by
 induction gs with
 |nil=>rfl
 |cons g gs ih =>
  rw[List.countP_cons,List.countP_cons,length_cons]
  by_cases hk:g.kind=0
  ·have h1 : jU g = false := by unfold jU; simp [hk]
   rw[h1];simp only[hk,decide_true,Bool.false_eq_true,if_false,if_true];omega
  ·have h1:jU g=true:=decide_eq_true hk;rw[h1];simp only[hk,decide_false,Bool.false_eq_true,if_false,if_true];omega
theorem vO{s g:Nat}:∀{n m y y' j r E:Nat},eD s g n y j r E=true->m<=n->y'<=y->eD s g m y' j r E=true
 |n,0,y,y',j,r,E,h,hm,hy=>by
  have h1:=Bc h;exact decide_eq_true h1
 |n+1,m+1,y,y',j,r,E,h,hm,hy=>by
  have h1:=ut h;unfold eD;simp only[and_eq_true,or_eq_true,decide_eq_true_eq];refine⟨h1.1,vO h1.2 oz hy,?_⟩
  by_cases hz:y'=0
  ·exact .inl hz
  ·right;obtain ⟨y2,rfl⟩:∃ y2,y = y2 + 1:=⟨y - 1,by omega⟩
   have h2:=ur h;exact⟨h2.1,vO h2.2 oz oz⟩
theorem KT{l:Li}{xs:List Tn}(hL:jV l xs=true)(hl:l.ok)(hxw:∀x∈xs,x.t.wok)(h0:cP l xs=0):∃s g,WkC l xs s g/\WkSt l s g (aK l).length (eS l):=by
 obtain⟨hli,hsp,hln,hxe⟩:=VK h0;unfold jV at hL;simp only[and_eq_true,decide_eq_true_eq]at hL;obtain⟨⟨_,_⟩,hT,hM,hR⟩:=hL;rw[all_eq_true]at hT hM;rw[VQ hli]at hR;unfold yW at hR;rw[io,io,iH]at hR;have hdl:=KV hli hsp;have hd2:=wM hli;have hcn:=PT (aK l)
 have hxo:∀x∈xs,x.t.ok/\Qb 32 x.t.q:=fun x hx=>by
  have h9:=hT x hx;unfold mh at h9;rw[decide_eq_true_eq]at h9;have ho:=(hxw x hx).ok h9.1 h9.2 oz;exact⟨ho,(Rt.qb ho (k:=1) oz h9.1 h9.2).mono oz⟩
 have hstart:∀(s g n y:Nat),eD s g n y 0 0 2=true->(aK l).length<=n->(aK l).countP jU<=y->WkSt l s g (aK l).length (eS l):=fun s g n y ok h1 h2 =>
  ⟨⟨0,0,2,y,IX l,vO ok h1 (le_refl _),h2⟩,Nat.zero_add _⟩
 by_cases hn:(aK l).length<=l.dv.length+1
 ·refine⟨32,134,⟨hl,hli,hsp,?_,hln,fun x hx=>?_⟩,hstart 32 134 3 1 Dn oz oz⟩
  ·intro b hb m hm;have h9:=hM b hb;rw[all_eq_true]at h9;have h8:=h9 m hm;unfold kX at h8;rw[decide_eq_true_eq]at h8;have ho:=(hl.bo b hb).pts m hm;exact⟨(Rt.qb ho.x (k:=1) oz h8.1 h8.2.1).mono oz,(Rt.qb ho.y (k:=1) oz h8.2.2.1 h8.2.2.2).mono oz⟩
  ·obtain⟨h1,h2⟩:=hxo x hx;exact⟨h1,hxe x hx,h2.mono oz,Cb.one (qS h2),Cb.one (qM h2)⟩
 ·have hlow:(aK l).length=l.dv.length+2/\pS xs=true/\pY l=true:=by
   simp only[or_eq_true,and_eq_true]at hR;rcases hR with(h9 |h9) |⟨h9,h8⟩
   ·rw[hsp]at h9;exact absurd h9 (by simp[aa])
   ·have : ((aK l).length : Int) - l.dv.length <= 1 := by simpa [aa] using h9
    omega
   ·have : ((aK l).length : Int) - l.dv.length = 2 := by simpa [aa] using h9
    exact⟨by omega,h8.1,h8.2⟩
  obtain⟨hlen,hlT,hlL⟩:=hlow;refine⟨9,42,⟨hl,hli,hsp,?_,hln,fun x hx=>?_⟩,hstart 9 42 4 2 KJ oz oz⟩
  ·intro b hb m hm;unfold pY at hlL;rw[all_eq_true]at hlL;have h9:=hlL b hb;unfold sI at h9;rw[all_eq_true]at h9;have h8:=h9 m hm;simp only[List.all_cons,List.all_nil,Bool.and_true,and_eq_true]at h8;have ho:=(hl.bo b hb).pts m hm;exact⟨BW ho.x h8.1,BW ho.y h8.2⟩
  ·obtain⟨h1,h2⟩:=hxo x hx;unfold pS at hlT;rw[all_eq_true]at hlT;have h8:=hlT x hx;simp only[List.all_cons,List.all_nil,Bool.and_true]at h8;have h9:=BW h1 h8;exact⟨h1,hxe x hx,h2.mono oz,Cb.one (qS h9),Cb.one (qM h9)⟩
theorem DQ(a:List Int)(ha:a.length<=281474976710656):FP 48 [.lst 1 (a.map i64),.lst 1 (a.map i64)] (bl true):=by
 refine af func48 ?_;refine gl ?_;refine gl ?_;refine gC (fun t10=>?_) (fun t10=>?_) (st1:=(2,0));exact absurd t10 (by simp[aa]);refine aN [0,1] [] (fun(i:Nat)=>[(5,some (i64 i))]) (fun _=>[]) (fun i=>i<=a.length) (fun i=>a.length-i) 0 (zero_le _) ?_;rintro i hi K1 J1;refine gl ?_;refine gC (fun t14=>?_) (fun t14=>?_)
 ·have hin:=aT t14;obtain⟨x,hx⟩:=az hin;refine gi (ay hx) ?_;refine gi (ay hx) ?_;refine gD ?_;refine gC (fun t25=>?_) (fun t25=>?_) (st1:=(7,0));exact absurd t25 (by simp[aa]);refine ga aE ?_;exact aH J1 (i+1) hin
 refine ae ?_;rfl
structure AqOk(a:Aq):Prop where
  tw:∃r,Tw a.ts r
  two:a.ts.length<=2
  bs:∀p∈a.bs,Pq.ok a.ts.length 50000000000 p
  lb:a.bs.length<=100
  lm:a.ms.length<=100
theorem WkSt.aq{l:Li}{s g n:Nat}{a:Aq}(hli:aG l=0)(h:WkSt l s g n a):AqOk a:=by
 obtain⟨⟨j,r,E,y,Q,ok,_⟩,hl⟩:=h;obtain⟨hE,hr,hj⟩:=Bc ok;have h1:=Q.lv;have h2:=Q.ln;have h3:=(dp hli).2.2.2.1;have h4:=kE hli;exact⟨⟨r,Q.tw⟩,by omega,fun p hp=>(Q.bs p hp).up (le_refl _) Q.tw.five hE,by omega,by omega⟩
theorem AO{F:Int->Bool}{sg:Bool}{f:Sv->List Aq×Nat}{b:Aq}:∀{S:List Sv},b∈(dV F sg f S).1->∃s∈S,F s.mode=true/\b∈(f s).1
 |[],h=>by cases h
 |s::S,h=>by
  rw[mM]at h;split at h
  ·obtain⟨x,hx,h2⟩:=AO h;exact⟨x,mem_cons_of_mem _ hx,h2⟩
  ·rename_i hF;have hF:F s.mode = true:=by simpa using hF
   split at h
   ·exact⟨s,mem_cons_self,hF,h⟩
   ·split at h
    ·exact⟨s,mem_cons_self,hF,h⟩
    ·rcases List.mem_append.1 h with h |h
     ·exact⟨s,mem_cons_self,hF,h⟩
     ·obtain⟨x,hx,h2⟩:=AO h;exact⟨x,mem_cons_of_mem _ hx,h2⟩
theorem Ck{l:Li}{xs:List Tn}{s g:Nat}(W:WkC l xs s g){F:Nat->Int->Bool}{sg:Bool}:∀(n:Nat)(a:Aq),WkSt l s g n a->∀b∈(gj F sg l xs (aK l) n a).1,WkSt l s g 0 b
 |0,a,h,b,hb=>by rw[List.mem_singleton.1 hb];exact h
 |n+1,a,h,b,hb=>by
  obtain⟨gr,hg,_,hP,hn⟩:=h.next W;unfold gj at hb;rw[aO hg]at hb;split at hb
  ·cases hb
  ·obtain⟨sv,hsv,_,h2⟩:=AO hb;exact Ck W n _ (hn sv hsv) b h2
theorem Sn{a:Aq}(h:AqOk a):FP 47 [a.av,a.av] (bl true):=by
 obtain⟨r,tw⟩:=h.tw;have hlb:=h.lb;have hlm:=h.lm;refine af func47 ?_;refine gc (Jx tw) ?_;refine bS ?_;refine bS ?_;refine bM (fun _=>(DQ a.ms oz)) ?_;refine gC (fun t28=>?_) (fun t28=>?_) (st1:=(2,0));exact absurd t28 (by simp[aa]);refine gl ?_;refine aN [2,3,31] [2,3] (fun(i:Nat)=>[(32,some (i64 i))]) (fun _=>[]) (fun i=>i<=a.bs.length) (fun i=>a.bs.length-i) 0 (zero_le _) ?_;rintro i hi K1 J1;refine gC (fun t33=>?_) (fun t33=>?_)
 ·have hin:=aT t33;obtain⟨p,hp⟩:=az hin;refine gi (ay hp) ?_;refine gi (ay hp) ?_;refine gc (Qg tw h.two ((h.bs p (mem_of_getElem? hp)).up (le_refl _) tw.five oz)) ?_;refine gD ?_;refine gC (fun t48=>?_) (fun t48=>?_) (st1:=(7,0));cases t48;refine ga aE ?_;exact aH J1 (i+1) hin
 refine ae ?_;rfl
def lX:Aq:=⟨[],[],[]⟩
def tK(modes:List Int)(l:Li)(R:List Aq×Nat):Aq:=if modes.length≠(aK l).length then lX else if R.2≠0 then lX else R.1.getD 0 lX
def tA(modes:List Int)(l:Li)(R:List Aq×Nat):Nat:=if modes.length≠(aK l).length then 10 else if R.2≠0 then R.2 else if R.1=[]then 16 else 0
theorem vk:Sub (.agg [nS,nS,nS]) lX.av:=Sub.agg (.cons (.nil _ _ _) (.cons (.nil _ _ _) (.cons (.nil _ _ _) .nil))) rfl
def o0(F:Int->Bool)(fn:Sv->List Aq×Nat)(S:List Sv)(a:Aq)(g:Gr)(i:Nat)(b:Aq)(f:Bool):Prop :=
  i<=S.length/\((f=false/\b=a/\dV F true fn S=dV F true fn (S.drop i))\/(f=true/\∃s∈S,b=a.nxt g s/\dV F true fn S=fn s))
theorem L1{F:Int->Bool}{fn:Sv->List Aq×Nat}{s:Sv}{r:List Sv}(h:F s.mode=true):dV F true fn (s::r)=fn s:=by
 rw[mM,VP (by rw[h];simp)];split
 ·rfl
 ·rw[VQ rfl]
theorem Vm(F:Int->Bool)(fn:Sv->List Aq×Nat)(S:List Sv)(a:Aq)(g:Gr):o0 F fn S a g 0 a false:=⟨zero_le _,.inl ⟨rfl,rfl,rfl⟩⟩
section
variable{F:Int->Bool}{fn:Sv->List Aq×Nat}{S:List Sv}{a:Aq}{g:Gr}{i:Nat}{b:Aq}{f:Bool}(h:o0 F fn S a g i b f){s:Sv}(hs:S[i]?=some s)
include h hs
theorem Mx(hF:F s.mode=true)(hf:f=false):b=a/\o0 F fn S a g (i+1) (a.nxt g s) true:=by
 rcases h.2 with⟨_,hb,e⟩ |⟨h1,_⟩
 ·rw[mt hs,L1 hF]at e;exact⟨hb,(List.getElem?_eq_some_iff.1 hs).1,.inr ⟨rfl,s,mem_of_getElem? hs,rfl,e⟩⟩
 ·rw[hf]at h1;cases h1
theorem QU(hF:¬(F s.mode=true/\f=false)):o0 F fn S a g (i+1) b f:=by
 refine⟨(List.getElem?_eq_some_iff.1 hs).1,?_⟩;rcases h.2 with⟨h1,hb,e⟩ |h1
 ·have h2 : F s.mode = false := by cases h3 : F s.mode <;> simp_all
  rw[mt hs,mM,VQ h2]at e;exact .inl ⟨h1,hb,e⟩
 ·exact .inr h1
end
theorem JH{F:Int->Bool}{m mk:Int}{fd:Bool}(h:F m=decide (m=mk))(ht:cond (aa .eql m mk) (!fd) false=true):F m=true/\fd=false:=by
 rw[lR,<- h]at ht;cases h1:F m <;> cases h2:fd <;> simp_all
theorem Un{F:Int->Bool}{m mk:Int}{fd:Bool}(h:F m=decide (m=mk))(ht:cond (aa .eql m mk) (!fd) false=false):¬(F m=true/\fd=false):=by
 rw[lR,<- h]at ht;cases h1:F m <;> cases h2:fd <;> simp_all
theorem KB{F:Int->Bool}{fn:Sv->List Aq×Nat}{S:List Sv}{a:Aq}{g:Gr}{b:Aq}{f:Bool}(h:o0 F fn S a g S.length b f)(hf:f=false):dV F true fn S=([],0):=by
 rcases h.2 with⟨_,_,e⟩ |⟨h1,_⟩
 ·rw[e,drop_length];rfl
 ·rw[hf]at h1;cases h1
theorem Qw{F:Int->Bool}{fn:Sv->List Aq×Nat}{S:List Sv}{a:Aq}{g:Gr}{i:Nat}{b:Aq}{f:Bool}(h:o0 F fn S a g i b f)(hf:f=true):∃s∈S,b=a.nxt g s/\dV F true fn S=fn s:=by
 rcases h.2 with⟨h1,_⟩ |⟨_,h1⟩
 ·rw[hf]at h1;cases h1
 ·exact h1
structure OneAt(l:Li)(xs:List Tn)(s g:Nat)(modes:List Int)(R:List Aq×Nat)(k:Nat)(a:Aq):Prop where
  kk:k=a.ms.length
  le:k<=(aK l).length
  st:WkSt l s g ((aK l).length-k) a
  eq:gj (gG modes) true l xs (aK l) ((aK l).length-k) a=R
theorem TX{l:Li}{xs:List Tn}{modes:List Int}{e:Nat}(h0:e≠0)(hB:FP 34 [l.av,.lst 4 (xs.map Tn.av)] (i64 e)):FP 46 [l.av,.lst 4 (xs.map Tn.av),.lst 1 (modes.map i64)] (.tup [lX.av,i64 e]):=by
 refine af func46 ?_;refine gc hB ?_;refine gC (fun t23=>?_) (fun t23=>?_) (st2:=(77777,0))
 ·refine gR ?_;exact bw (Sub.tup (.cons vk (.cons (.refl _) .nil)))
 exact absurd (dD t23) h0
theorem Ry{l:Li}(hl:l.ok){xs:List Tn}{s g:Nat}(W:WkC l xs s g)(St:WkSt l s g (aK l).length (eS l)){modes:List Int}(hml:modes.length<=100)(hB:FP 34 [l.av,.lst 4 (xs.map Tn.av)] (i64 0)){R:List Aq×Nat}
  (hR:gj (gG modes) true l xs (aK l) (aK l).length (eS l)=R):FP 46 [l.av,.lst 4 (xs.map Tn.av),.lst 1 (modes.map i64)] (.tup [(tK modes l R).av,i64 (tA modes l R)]):=by
 have hli:=W.li;have hlb:=(dp hli).2.2.2;have hsl:=kE hli;have h2:=wM W.li;have hxl:=W.ln;refine af func46 ?_;refine gc hB ?_;refine gC (fun t23=>?_) (fun t23=>?_) (st1:=(3,0));cases t23;refine gc (m9 l hl hli) ?_;refine gl ?_;refine gl ?_;refine gC (fun t35=>?_) (fun t35=>?_)
 ·have h1:=qr t35;refine gR ?_;exact bw (by unfold tK tA;rw[VQ h1,VQ h1];exact Sub.tup (.cons vk (.cons (.refl _) .nil)))
 have h1:=qQ t35;have hm:¬(modes.length≠(aK l).length):=fun h=>h h1
 refine gc (KY oz oz) ?_;refine gl ?_;refine fZ [1,2,3,6,11,39,40] [3,6] (fun(k:Nat)(a:Aq)=>[(41,some (i64 k))]) (fun _ a=>[(11,some (.box a.cs))]) (fun k a=>OneAt l xs s g modes R k a) (fun k _=>(aK l).length-k) 0 (eS l) ⟨rfl,zero_le _,St,hR⟩ ?_;rintro k a hO K1 J1;refine gC (fun t42=>?_) (fun t42=>?_)
 ·have hin:=aT t42;obtain ⟨n,hn⟩:∃ n,(aK l).length - k = n + 1:=⟨(aK l).length - k - 1,by omega⟩
  have hst:=hO.st;have heq:=hO.eq;have hka:=hO.kk;rw[hn]at hst heq;obtain⟨gr,hg,_,hP,hnx⟩:=hst.next W;have hS:=hst.refS W hg;rw[<- hka]at hg hS;obtain⟨hdy,hgo⟩:=nV W.li (mem_of_getElem? hg);obtain⟨j9,r9,E9,y9,Q9,_,_⟩:=hst.st;have hQl:=Q9.ln;have hgb:=hgo.lb;have htw:=hP.two;obtain⟨mk,hmk⟩:=az (l:=modes) (i:=k) oz;have hFk:∀m,gG modes k m=decide (m=mk):=fun m=>by unfold gG;rw[aO hmk]
  unfold gj at heq;rw[<- hka,aO hg]at heq;refine gi (ay hg) ?_;refine gc (SG (fun hk=>by rw[hxl];exact BY hdy hk) oz) ?_;refine gc hS ?_;refine gD ?_;refine gC (fun t57=>?_) (fun t57=>?_)
  ·have hE:jM l a.as gr (bW gr xs)≠0:=dY t57;rw[VQ hE]at heq;refine gR ?_;exact bw (by unfold tK tA;rw[VP hm,VP hm,<- heq,VQ hE,VQ hE];exact Sub.tup (.cons vk (.cons (.refl _) .nil)))
  have hE:jM l a.as gr (bW gr xs)=0:=dD t57;rw[VP (fun h=>h hE)]at heq;refine gl ?_;refine ip [1,2,3,6,11,39,40,41,12,13,60,61] [3,6,13] (fun(i:Nat)(b:Aq)(fd:Bool)=>[(16,some (bl fd)),(62,some (i64 i))]) (fun _ b _=>[(11,some (.box b.cs))]) (fun i b fd=>o0 (gG modes k) (fun sv=>gj (gG modes) true l xs (aK l) n (a.nxt gr sv)) (eM l a.as gr (bW gr xs)) a gr i b fd) (fun i _ _=>(eM l a.as gr (bW gr xs)).length-i) 0 a false (Vm _ _ _ _ _) ?_;rintro i b fd hpk K2 J2;refine gC (fun t63=>?_) (fun t63=>?_)
  ·have hin2:=aT t63;obtain⟨sv,hsv⟩:=az hin2;refine gi (ay hsv) ?_;refine gi (ay hmk) ?_;refine gD ?_;refine gC (fun t76=>?_) (fun t76=>?_)
   ·obtain⟨hF,hfd⟩:=JH (hFk sv.mode) t76;obtain⟨hba,hpk2⟩:=Mx hpk hsv hF hfd;subst hba;refine gc (Ku (fun b hb=>by rw[hQl];exact hgo.b b hb) (by obtain⟨i9,hi9⟩:=List.getElem?_of_mem (mem_of_getElem? hsv);exact(hP.md i9 sv hi9).2.2) oz oz oz) ?_;refine ga aE ?_;exact fS J2 (i+1) (b.nxt gr sv) true hpk2
   have hno:=Un (hFk sv.mode) t76;refine ga aE ?_;exact fS J2 (i+1) b fd (QU hpk hsv hno)
  have hin2:=a8 hpk.1 t63;subst hin2;refine gC (fun t83=>?_) (fun t83=>?_)
  ·have hfd : fd = false := by simpa using t83
   have hRe:R=([],0):=heq.symm.trans (KB hpk hfd);refine gR ?_;exact bw (by unfold tK tA;rw[VP hm,VP hm,hRe];exact Sub.tup (.cons vk (.cons (.refl _) .nil)))
  have hfd:fd=true:=by simpa using t83
  obtain⟨sv,hsv,hb,hfs⟩:=Qw hpk hfd;have hnk:(aK l).length-(k+1)=n:=by omega
  refine ga aE ?_;exact fB J1 (k+1) b (by subst hb;exact⟨by show k+1=(a.ms++[sv.mode]).length;rw[length_append,hka];rfl,hin,by rw[hnk];exact hnx sv hsv,by rw[hnk,<- heq,hfs]⟩)
 have hin:=a8 hO.le t42;have hz:(aK l).length-k=0:=by omega
 have hRe:=hO.eq;rw[hz]at hRe;have hRe:R=([a],0):=hRe.symm;refine gR ?_;exact bw (by unfold tK tA;rw[VP hm,VP hm,hRe];exact .refl _)
def lD(s:ByteArray)(n:Int):Bd:=⟨s,[⟨⟨#[97]⟩,rt ((0:Int):Rat),rt ((0:Int):Rat)⟩,⟨⟨#[98]⟩,rt (n:Rat),rt ((0:Int):Rat)⟩]⟩
def fb:Li:=⟨⟨#[102,111,117,114,98,97,114]⟩,[lD ⟨#[102,114,97,109,101]⟩ 4,lD ⟨#[99,114,97,110,107]⟩ 3,lD ⟨#[99,111,117,112,108,101,114]⟩ 5,lD ⟨#[114,111,99,107,101,114]⟩ 6],
  [⟨⟨#[111]⟩,0,1,0,0,0,0⟩,⟨⟨#[112]⟩,0,2,0,1,1,0⟩,⟨⟨#[113]⟩,0,3,0,0,1,0⟩,⟨⟨#[114]⟩,0,2,1,3,1,0⟩],[⟨⟨#[100]⟩,1⟩]⟩
def t0:Tn:=⟨⟨false,[],[]⟩,false⟩
theorem zK(a b:ByteArray):dG a b=(a.data.toList==b.data.toList):=by
 unfold dG;rw[Go.ByteArray.toList_eq,Go.ByteArray.toList_eq]
theorem IN:aG fb=0:=by
 have h1:ig fb=0:=by
  unfold ig eU d6 f7 dZ;simp only[zK];decide +kernel
 have h2:eL fb=0:=by
  unfold eL eU f6 f7;simp only[zK];decide +kernel
 have h3:gg fb=0:=by
  unfold gg eU dN f7;simp only[zK];decide +kernel
 unfold aG;rw[h1,h2,h3];decide +kernel
theorem O4{s:ByteArray}(hs:s.size<=281474976710656){n:Int}(hn:-9223372036854775808<=n/\n<=9223372036854775807) :
  (lD s n).name.size<=281474976710656/\(lD s n).pts.length<=281474976710656/\∀m∈(lD s n).pts,m.name.size<=281474976710656/\m.x.wok/\m.y.wok:=by
 have h0:(rt ((0:Int):Rat)).ok:=(nN oz).ok;have h1:(rt (n:Rat)).ok:=(nN hn).ok;refine⟨hs,by show 2<=_;omega,fun m hm=>?_⟩;simp only[lD,mem_cons,not_mem_nil,or_false]at hm;rcases hm with rfl |rfl
 ·exact⟨by show 1<=_;omega,h0.wok,h0.wok⟩
 ·exact⟨by show 1<=_;omega,h1.wok,h0.wok⟩
theorem PD:fb.okw:=by
 refine⟨by decide,fun b hb=>?_,fun j hj=>?_,fun d hd=>?_,by decide,by decide,by decide⟩
 ·simp only[fb,mem_cons,not_mem_nil,or_false]at hb;rcases hb with rfl |rfl |rfl |rfl <;> exact O4 (by decide) oz
 ·simp only[fb,mem_cons,not_mem_nil,or_false]at hj;rcases hj with rfl |rfl |rfl |rfl <;> decide
 ·simp only[fb,mem_cons,not_mem_nil,or_false]at hd;rcases hd with rfl;decide
theorem H2:fb.ok:=zT (by decide +kernel) PD
theorem jL.ofL{l l':List AV}(h:SubL l l')(ho:l'.all AV.one=true):jL (.agg l) (.agg l') :=
 ⟨h.len,fun j x y hx hy=>⟨List.all_eq_true.1 ho y (mem_of_getElem? hy),h.get j x y hx hy⟩⟩
theorem Fm(s:ByteArray)(x y:Int)(hx:-9223372036854775808<=x/\x<=9223372036854775807)(hy:-9223372036854775808<=y/\y<=9223372036854775807):FP 234 [.v (.string s),i64 x,i64 y] (Mk.av ⟨s,rt (x:Rat),rt (y:Rat)⟩):=by
 refine af func234 ?_;refine gc (lg x hx) ?_;refine gc (lg y hy) ?_;refine ae ?_
 first |rfl |(simp;done)
theorem wD(s:ByteArray)(n:Int)(hn:-9223372036854775808<=n/\n<=9223372036854775807):FP 127 [.v (.string s),i64 n] (lD s n).av:=by
 refine af func127 ?_;refine gc (Fm _ 0 0 oz oz) ?_;refine gc (Fm _ n 0 hn oz) ?_;refine ae ?_
 first |rfl |(simp;done)
theorem RE:FP 55 [] fb.av:=by
 refine af func55 ?_;refine gc (wD _ 4 oz) ?_;refine gc (wD _ 3 oz) ?_;refine gc (wD _ 5 oz) ?_;refine gc (wD _ 6 oz) ?_;refine ae ?_
 first |rfl |(simp;done)
deriving instance DecidableEq for Pq
deriving instance DecidableEq for Aq
def B2:List Aq×Nat:=nc E2 false fb [iM]
theorem KD:cP fb [iM]=0:=by
 unfold cP rY;rw[VP (by rw[IN];decide),VP (show ¬cA fb≠0 by decide +kernel),VP (show ¬[iM].length≠fb.dv.length by decide +kernel)];decide +kernel
def aF:Aq:=⟨[],[⟨[1],[],[],[]⟩,⟨[1],[],[],[]⟩,⟨[-1],[],[3],[]⟩,⟨[-1],[],[4],[]⟩],[1,0]⟩
theorem N3:B2=([aF],0):=by decide +kernel
theorem Uo:WkC fb [iM] 32 134:=by
 have z:iM.t.q=0:=by decide +kernel
 have h0:Qb 32 iM.t.q:=by rw[z];exact Qb.zero.mono oz
 refine⟨H2,IN,by decide +kernel,?_,rfl,fun x hx=>?_⟩
 ·have h : ∀ b ∈ fb.bo, ∀ m ∈ b.pts, (m.x.q.num.natAbs < 2 ^ 32 /\ m.x.q.den < 2 ^ 32) /\ (m.y.q.num.natAbs < 2 ^ 32 /\ m.y.q.den < 2 ^ 32) := by decide +kernel
  exact h
 ·rw[List.mem_singleton.1 hx];exact⟨Bq,by decide +kernel,D8,Cb.one (qS h0),Cb.one (qM h0)⟩
theorem TO:WkSt fb 32 134 (aK fb).length (eS fb):=by
 refine⟨⟨0,0,2,1,IX fb,vO Dn ?_ (le_refl _),?_⟩,Nat.zero_add _⟩
 ·decide +kernel
 ·decide +kernel
theorem P3:FP 33 [fb.av,.lst 4 [iM.av]] (.tup [.lst 3 [aF.av],bm 0]):=by
 have hop:=Jd fb H2 [iM] (fun x hx=>by rw[List.mem_singleton.1 hx];exact Bq) (by show 1<=100;omega);have hp:([]:List Aq).length+2^(aK fb).length<=1000:=by decide +kernel
 have hw:=zG Uo E2 false (fo:=189) (caps:=[]) (fun k m _=>M2 k m) (aK fb).length (eS fb) TO [] hp;have hA:=PO KD hop (by show 0<4;omega) (by show 4<=100;omega) (R:=B2) hw;rw[N3]at hA;exact hA
theorem Ht(n k:Nat)(hn:n<=5):Nm n k []:=⟨hn,.inl rfl,⟨1,0,⟨by decide,fun q h=>by cases h⟩,Nat.one_le_two_pow,zero_le _⟩⟩
theorem LO:AL aF.as:=by
 have h1:∀q:Rat,Qb 1000 q->NR [rt q] 4000:=fun q h=>Nm.rt (n:=0) (e:=4000) (l:=[q]) ⟨by omega,.inr ⟨0,le_refl _,rfl⟩,(Cb.one h).mono oz⟩ (by decide)
 have h0:NR [] 4000:=Nm.rt (n:=0) (e:=4000) (l:=[]) (Ht 0 4000 oz) (by decide);have hq:∀q:Rat,q.num.natAbs<2^5/\q.den<2^5->Qb 1000 q:=fun q h=>Qb.mono (e:=5) h oz
 refine⟨(yc.tr).mono oz oz,?_,by decide,by decide⟩;intro b hb x hx;simp only[aF,Aq.as,map_cons,map_nil,mem_cons,not_mem_nil,or_false]at hb;rcases hb with rfl |rfl |rfl |rfl <;> simp only[Pl.l,Pq.pl,map_cons,map_nil,mem_cons,not_mem_nil,or_false]at hx <;> rcases hx with rfl |rfl |rfl |rfl <;> first |exact h0 |exact h1 _ (hq _ (by decide +kernel))
theorem PV:FP 52 [aF.av,i64 2,(rt ((5:Int):Rat)).av,(rt 0).av] (.tup [ao [-2] [],bm 0]):=by
 have h:=Me aF.as LO 2 (rt ((5:Int):Rat)) (rt 0) (nN (n:=5) oz).ok Qs.zero.ok (by rw[bt];exact Qb.mono (e:=5) (q:=((5:Int):Rat)) ⟨by decide,by decide⟩ oz) (by rw[bt];exact Qb.zero.mono oz);rw[aF.as_av]at h;have e1:q7 aF.as 2 (rt ((5:Int):Rat)) (rt 0)=[-2]:=by decide +kernel
 have e2:q6 aF.as 2 (rt ((5:Int):Rat)) (rt 0)=[]:=by decide +kernel
 have e3:jw aF.as 2=0:=by decide +kernel
 unfold GD at h;rw[e1,e2,e3]at h;exact h
theorem SH:Sub (.lst 4 [.agg [.v (.bool false),nS,nS,.v (.bool false)]]) (.lst 4 [iM.av]) :=
 Sub.lst rfl (fun i x y hx hy=>by
  match i,hx,hy with
  |0,hx,hy=>cases hx;cases hy;exact .ofL (.cons (.refl _) (.cons (.nil _ _ _) (.cons (.nil _ _ _) (.cons (.refl _) .nil)))) rfl)
theorem Hn:FP 30 [] (bl true):=by
 have hAll:=P3;have nx:Nm 0 10 [(-2:Rat)]:=⟨by omega,.inr ⟨0,le_refl _,rfl⟩,Cb.mono (Cb.int (z:=-2) (e:=2) (by decide)) oz⟩
 have n0:Nm 0 10 []:=Ht 0 10 oz;have hE:=KQ (ts:=[]) yc nx n0 nx n0 (by decide);rw[oa,oa]at hE;have hOf:=xM (x:=((-2:Int):Rat)) (y:=0) (nN (n:=-2) oz) Qs.zero;rw[show sh 0 (((-2:Int):Rat):Rat)=[-2] by decide +kernel,show sh 0 (0:Rat)=[] by decide +kernel]at hOf;refine af func30 ?_;refine gc RE ?_;refine gc (Con.sA (.cons (.refl _) (.cons SH .nil)) hAll) ?_;refine Km (fun _=>rfl) ?_;refine lJ (fun _=>(rfl)) ?_;refine bM (fun _=>(DQ [1,0] (by decide))) ?_;refine gC (fun t27=>?_) (fun t27=>?_) (st1:=(3,0));cases t27;refine gi (rfl) ?_;refine gc (lg 5 oz) ?_;refine gc (Con.sA (.cons (.refl _) (.cons (.refl _) (.cons (.refl _) (.cons gL .nil)))) PV) ?_;refine gD ?_;refine lJ (fun _=>(rfl)) ?_;refine bM (fun _=>(lg (-2) oz)) ?_;refine bM (fun _=>(Con.sA (.cons (.refl _) (.cons gL .nil)) hOf)) ?_;refine bM (fun _=>hE) ?_;refine gD ?_;refine ae ?_;rfl
theorem E4{l:Li}{xs:List Tn}(h:jV l xs=true)(hxw:∀x∈xs,x.t.wok):ir l=true/\xs.length<=20/\∀x∈xs,x.t.ok:=by
 unfold jV at h;simp only[and_eq_true,decide_eq_true_eq]at h;refine⟨h.1.1,h.1.2,fun x hx=>?_⟩;have h9:=List.all_eq_true.1 h.2.1 x hx;unfold mh at h9;rw[decide_eq_true_eq]at h9;exact(hxw x hx).ok h9.1 h9.2 oz
structure OneP(l:Li)(xs:List Tn)(modes:List Int)(V:Aq)(e:Nat):Prop where
  one:FP 45 [l.av,.lst 4 (xs.map Tn.av),.lst 1 (modes.map i64)] (.tup [V.av,bm e])
  ref:aG l=0->FP 46 [l.av,.lst 4 (xs.map Tn.av),.lst 1 (modes.map i64)] (.tup [V.av,i64 e])
  bad:aG l≠0->e=aG l
  no:e≠0->V=lX
  ok:e=0->AqOk V
theorem LH{l:Li}(hl:l.ok){xs:List Tn}(hL:jV l xs=true)(hxw:∀x∈xs,x.t.wok){modes:List Int}(hm:modes.length<=20):∃V e,OneP l xs modes V e:=by
 obtain⟨_,hx20,hxo⟩:=E4 hL hxw;have hop:=Jd l hl xs hxo oz
 by_cases h0:cP l xs=0
 ·obtain ⟨s, g, W, St⟩:=KT hL hl hxw h0;have hsl:=kE W.li;have hlb:=(dp W.li).2.2.2;have hp:2 ^ (aK l).length <= 256:=le_trans (bT (b:=8) oz) (by decide);have hw:=fun (hml:modes.length = (aK l).length)=>zG W (gG modes) true (fo:=111) (caps:=[.iptr [.lst 1 (modes.map i64)]]) (fun k m hk=>U4 (modes:=modes) oz oz m) (aK l).length (eS l) St [] (by simp only [length_nil]; omega)
  have hlen:=yo W (gG modes) true (aK l).length (eS l) St;have hmem:=Ck W (F:=gG modes) (sg:=true) (aK l).length (eS l) St;have hA:=ND (modes:=modes) oz h0 hop oz oz oz (R:=nc (gG modes) true l xs) hw (le_trans hlen oz);have hB:=Gg l hl W.li xs hxo oz;rw[h0]at hB;have hR:=Ry (modes:=modes) hl W St oz hB rfl;refine⟨_,_,⟨hA,fun _=>hR,fun h=>absurd W.li h,?_,?_⟩⟩
  ·intro he
   by_cases h1:modes.length≠(aK l).length
   ·rw[VQ h1];rfl
   ·rw[VP h1]at he ⊢
    by_cases h2:(nc (gG modes) true l xs).2≠0
    ·rw[VQ h2];rfl
    ·rw[VP h2]at he ⊢
     by_cases h3:(nc (gG modes) true l xs).1=[]
     ·rw[h3];rfl
     ·rw[VP h3]at he;exact absurd rfl he
  ·intro he
   by_cases h1:modes.length≠(aK l).length
   ·rw[VQ h1]at he;cases he
   ·rw[VP h1]at he ⊢
    by_cases h2:(nc (gG modes) true l xs).2≠0
    ·rw[VQ h2]at he;exact absurd he h2
    ·rw[VP h2]at he ⊢
     by_cases h3:(nc (gG modes) true l xs).1=[]
     ·rw[VQ h3]at he;cases he
     ·obtain⟨a0,ha0⟩ := az (l := (nc (gG modes) true l xs).1) (i := 0) (by cases hh : (nc (gG modes) true l xs).1 with |nil => exact absurd hh h3 |cons _ _ => simp);rw[aO ha0];exact(hmem a0 (mem_of_getElem? ha0)).aq W.li
 ·have hA:=Rh (modes:=modes) h0 hop;refine⟨lX,cP l xs,⟨hA,fun h=>TX h0 (Gg l hl h xs hxo oz),fun h=>?_,fun _=>rfl,fun h=>absurd h h0⟩⟩;unfold cP;rw[VQ h]
theorem Va{p:Bool}{n:Nat}(h:cond (cond (!true) true (!p)) true (aa .gtr (n:Int) 20)=false):p=true/\n<=20:=by
 cases p
 ·simp at h
 ·exact⟨rfl,gp (b:=20) h⟩
theorem JG(l:Li)(hw:l.okw)(xs:List Tn)(hxw:∀x∈xs,x.t.wok)(hxl:xs.length<=281474976710656)(modes:List Int)(hml:modes.length<=281474976710656):FP 8 [l.av,.lst 4 (xs.map Tn.av),.lst 1 (modes.map i64)] (bl true):=by
 refine af func8 ?_;refine gc Hn ?_;refine bM (fun _=>(Nd l hw xs hxl)) ?_;refine bS ?_;refine gC (fun t23=>?_) (fun t23=>?_)
 ·refine gc Hn ?_;refine ae ?_
  first |rfl |(simp;done)
 obtain⟨h1,hm20⟩:=Va t23;have hl:=zT (E4 h1 hxw).1 hw;obtain⟨V,e,P⟩:=LH hl h1 hxw hm20;refine gc P.one ?_;refine gc (DM l hl) ?_;refine wl [7,8,10] [7] (fun(wv:Aq)=>[(9,some (i64 e))]) (fun wv=>[(10,some (.box wv.cs))]) (fun wv=>e=0->wv=V) ?_ ?_
 ·intro K1 J1;refine gC (fun t35=>?_) (fun t35=>?_)
  ·have h2 : aG l = 0 := by simpa [aa] using t35
   refine gc (P.ref h2) ?_;exact mJ J1 V (fun _=>rfl)
  have h2:aG l≠0:=by simpa[aa]using t35
  exact mJ J1 lX (fun h=>absurd ((P.bad h2).symm.trans h) h2) (hw:=Wk.of (.cons rfl (Sub.int (by rw[P.bad h2])) (.k (.k (.k .nil)))) (.cons rfl (BlkSub.bL (.cons (.nil _ _ _) (.cons (.nil _ _ _) (.cons (.nil _ _ _) .nil))) rfl) (.k .nil)))
 rintro wv hwv;refine gC (fun t44=>?_) (fun t44=>?_)
 ·have he:e≠0:=dY t44;have hV:=P.no he;subst hV;refine gc (Nc e) ?_;refine bS ?_;refine bS ?_;refine l7 (fun _=>(rfl)) ?_;refine bS ?_;refine l7 (fun _=>(rfl)) ?_;refine ae ?_;simp[aa,lX];rfl
 have he:e=0:=dD t44;have hw:=hwv he;subst hw;refine bM (fun _=>(Sn (P.ok he))) ?_;refine ae ?_;rw[he];rfl
open Go.Proofs Go.Proofs.YtlilpljpajeafaaGreat
open Go.ChangeShapes Go.WideShapes Go.ChangeAt Go.RowKit
set_option maxRecDepth 100000 in
theorem Ml(os:Os)(started:os.Started)(H:Type)(enc:TypeId×Value->H) :
  ReturnsInHanded {} Tryz.checked os 8 .any (Rows.assembleOnesSpec.pre6 enc prog Tryz.f8 Rows.assembleOnesRow.domain false) (Rows.assembleOnesSpec.post enc prog Tryz.f8 false true false false):=by
 refine returnsInHanded_of_change_sized (C := Tryz.checked) own started (by kernel_rfl) func8
  (ChangeSpec.witness6 (enc:=enc) (C:=Tryz.checked) false ⟨#[],#[.agg #[.string ⟨#[]⟩,.slice none 0 0,.slice none 0 0,.slice none 0 0],.slice none 0 0,.slice none 0 0],[]⟩ 8 (by kernel_rfl) (by kernel_rfl) (by kernel_rfl) (by kernel_rfl)) ?_
 intro W base args ds gs before hval0 hW hcnd hwt0 _;have hval:∀(j:Nat) t v,Tryz.f8.params[j]?=some t->args[j]?=some v->Value.okWide prog W .any base t v:=hval0;have hwt:(DataW.weightsEach prog (Tryz.f8.params.toList++Rows.assembleOnesSpec.plain.varTypes prog) (ds++gs)).all (· <= reachBytes)=true:=hwt0;have hW':=hW;obtain⟨p,q,hA0,hV,rfl,hfz,hnd⟩:=hW;have hA:DataW.TrodAll enc prog W 0 (fun _=>true) true Tryz.f8.params.toList args.toList ds p:=hA0;rw[Tryz.params8]at hA hval hwt;obtain⟨v0,v1,v2,d0,d1,d2,p0,p1,p2,rfl,rfl,rfl,h0,h1,h2⟩:=trodAll_three hA;obtain⟨rfl,rfl⟩:=trodVars_none hV;clear hA0 hval0 hwt0;have hlt:∀x∈p0++p1++p2,x.block<W.heap.size:=fun x hx=>hW'.lt x (by simpa using hx)
 have hw0:∀n∈d0.weights prog 26,n<=reachBytes:=fun n hn=>by
  have:=List.all_eq_true.1 hwt n (DataW.weights_mem_each (j:=0) rfl rfl n hn);simpa using this
 have hw1:∀n∈d1.weights prog 84,n<=reachBytes:=fun n hn=>by
  have:=List.all_eq_true.1 hwt n (DataW.weights_mem_each (j:=1) rfl rfl n hn);simpa using this
 have hw2:∀n∈d2.weights prog 39,n<=reachBytes:=fun n hn=>by
  have:=List.all_eq_true.1 hwt n (DataW.weights_mem_each (j:=2) rfl rfl n hn);simpa using this
 obtain⟨x0,q0,r0⟩:=UD Tryz.underlying26 NT (hval 0 26 v0 rfl rfl) h0 hw0;obtain⟨x1,q1,r1⟩:=H6 Ll (fun _=>rfl) (GK Tryz.underlying84 (hval 1 84 v1 rfl rfl)) h1 hw1;obtain⟨x2,q2,r2⟩:=H6 OL (fun _=>rfl) (GK Tryz.underlying39 (hval 2 39 v2 rfl rfl)) h2 hw2
 have hc:=il.calls (W:=W) (vs:=#[v0,v1,v2]) (JG x0 q0 x1 q1.1 q1.2 x2 q2.2) rfl (fun j v x hv hx=>by
  match j,hv,hx with
  |0,hv,hx=>cases hv;cases hx;exact r0
  |1,hv,hx=>cases hv;cases hx;exact r1
  |2,hv,hx=>cases hv;cases hx;exact r2)
 refine hc.mono fun e W' ⟨he,hb⟩=>?_
 subst he;refine⟨_,rfl,KK hW' rfl rfl (fun _ _ _=>trodAll_mk1 (shut_bool Tryz.underlying4 _)) (fun sp hsp=>?_) rfl hb (ok_one (by kernel_rfl) rfl (okWide_bool_mk Tryz.underlying4 _))⟩;rw[Tryz.params8];have hs:∀x∈p0++p1++p2,sp x.block=true:=fun x hx=>hsp x (by simpa using hx)
 have g0:=An (sp':=sp) (by kernel_rfl) (of_decide_eq_true (by kernel_rfl)) h0 hb (fun x hx=>hlt x (by simp[hx])) (fun x hx=>hs x (by simp[hx]));have g1:=An (sp':=sp) (by kernel_rfl) (of_decide_eq_true (by kernel_rfl)) h1 hb (fun x hx=>hlt x (by simp[hx])) (fun x hx=>hs x (by simp[hx]));have g2:=An (sp':=sp) (by kernel_rfl) (of_decide_eq_true (by kernel_rfl)) h2 hb (fun x hx=>hlt x (by simp[hx])) (fun x hx=>hs x (by simp[hx]));have g:=trodAll_mk3 g0 g1 g2;rw[show p0++p1++p2++[]=p0++(p1++p2)from by simp];exact g
set_option maxRecDepth 100000 in
theorem MI:prog.closure 8=[8,30,55,127,234,85,175,282,362,176,174,195,292,364,293,279,280,360,390,365,392,295,391,294,281,361,393,296,33,99,135,238,118,211,313,368,369,395,212,215,316,318,372,374,371,389,396,397,346,398,399,402,400,401,352,248,247,317,320,373,213,314,315,370,319,332,378,214,334,379,403,411,405,414,415,413,380,404,412,407,406,381,239,335,119,216,189,101,142,246,350,351,376,377,126,233,331,232,326,269,330,100,190,287,288,191,17,61,121,227,228,327,273,357,274,358,355,272,244,348,136,240,336,137,242,347,241,337,343,387,338,382,339,383,384,340,385,386,408,341,342,344,345,138,243,62,139,245,252,349,388,409,140,141,159,88,86,177,54,178,231,164,328,229,163,230,329,160,179,122,143,158,251,77,161,124,125,68,153,271,356,74,162,72,75,144,63,67,155,146,145,249,353,250,70,147,156,262,263,264,267,157,53,123,265,260,256,266,257,253,254,255,354,258,259,261,151,268,270,148,154,64,71,87,149,65,78,165,73,79,76,150,152,192,289,48,52,93,37,103,194,193,290,291,363,196,104,197,297,81,23,83,169,89,180,277,170,182,283,278,181,183,105,171,172,199,31,57,32,95,185,285,284,286,96,186,97,187,188,51,107,98,15,59,131,60,132,236,133,237,333,134,94,184,45,111,46,34,102,110,36,113,112,200,27,90,299,201,300,301,166,202,29,92,276,359,84,173,275,302,303,168,24,167,38,108,106,198,298,39,203,28,91,304,312,25,305,366,306,307,308,367,394,410,309,207,204,310,311,205,206,114,42,47,115,20]:=by kernel_rfl
theorem KM:joinedFacts prog 8 Tryz.f8 Rows.assembleOnesSpec Rows.assembleOnesRow=true:=by
 unfold joinedFacts Program.recurses Program.inPlace Program.unfollowed Program.varsNamed;rw[MI,F6,Si,LB,OB,Tk,Qa]
 kernel_rfl
theorem assembleOnes_holds:Rows.AssembleOnesSaid :=
 OpenClaim.holds_of_wide 8 Tryz.f8 rfl rfl rfl rfl rfl rfl rfl ⟨rfl, rfl, rfl, rfl, rfl⟩ rfl rfl rfl rfl rfl (by kernel_rfl) func8 KM
  (of_decide_eq_true (by kernel_rfl)) (by unfold Func.isWrapper;first |(rw[VQ (by decide +kernel)];kernel_rfl) |(rw[VP (by decide +kernel)];exact⟨rfl,rfl⟩))
  (fun os started H enc _=>Ml os started H enc)
end Go.Lw
namespace Go.Proofs.YtlilpljpajeafaaGreat
theorem assembleOnes_proved:Rows.AssembleOnesSaid:=Go.Lw.assembleOnes_holds
end Go.Proofs.YtlilpljpajeafaaGreat
