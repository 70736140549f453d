/- SingularMirrored: for any linkage and any turns the law returns true and leaves its arguments as they were. No other condition. Part 7 of 8: what the later parts need -/
import Derived.Test.YtpdiojikejnehaaGreatRf
set_option linter.unusedVariables false
open List (mem_append foldl_cons nil_append append_nil map_nil map_map map_id)
open List renaming mem_of_getElem? → Xx, mem_cons_of_mem → X8, map_cons → Yi, mem_cons → X6, length_cons → XK, mem_cons_self → X7, length_append → XZ, length_nil → XM, getD_eq_getElem?_getD → Xy, all_eq_true → X9, getElem?_take → X0, getElem?_map → XE, append_assoc → Ye, getElem?_eq_getElem → XC, getElem?_replicate → X1, map_append → XQ, length_take → XO, take_of_length_le → XR, drop_zero → Yh, take_length → XP, not_mem_nil → XV, length_map → XA, getElem?_of_mem → Yd, length_replicate → X5, map_replicate → Yc, map_set → Yg, length_set → Yj
open Nat renaming eq_of_beq_eq_true → XG, le_refl → XD, lt_or_ge → XH, le_trans → XW, mul_le_mul_right → XY, zero_le → XJ, pow_add → Yb, lt_of_le_of_lt → XX
open Option renaming map_eq_some_iff → XB
open Bool renaming and_eq_true → XF, or_eq_true → Yf
open Int renaming toNat_natCast → X3
open Go.Proofs.Tryz
namespace Go.Lw
theorem Ca(r:(k:Nat)->T k)(q:Rat):∀(k:Nat){a c:List Rat},(∀i,i<2^k->c.getD i 0=q*a.getD i 0)->ae k c=T.mul r k (T.ofQ k q) (ae k a)
 |0,a,c,h=>h 0 (by decide)
 |k+1,a,c,h=>by
  have h1:=Ca r q k (a:=a.take (2^k)) (c:=c.take (2^k)) (fun i hi=>by rw[kr,kr,Yl hi,Yl hi];exact h i (by rw[Nat.pow_succ];omega));have h2:=Ca r q k (a:=a.drop (2^k)) (c:=c.drop (2^k)) (fun i hi=>by rw[kz,kz];exact h _ (by rw[Nat.pow_succ];omega));show(ae k (c.take (2^k)),ae k (c.drop (2^k)))=T.mul r (k+1) (T.ofQ k q,T.zero k) (ae k (a.take (2^k)),ae k (a.drop (2^k)));rw[T.mul_comm,T.mul_half,h1,h2,T.mul_comm r k (ae k (a.take _)),T.mul_comm r k (ae k (a.drop _))]
section
variable{ts:LL}
def Bz(e:Nat)(x:Et ts):Prop:=Nm ts.length e (sX x)
theorem Bz.mono{e f:Nat}{x:Et ts}(h:Bz e x)(hf:e<=f):Bz f x:=Nm.mono h hf
theorem Bz.add{e f:Nat}{x y:Et ts}(hx:Bz e x)(hy:Bz f y):Bz (e+f+1) (x+y):=Nm.addT hx hy
theorem Bz.sub{e f:Nat}{x y:Et ts}(hx:Bz e x)(hy:Bz f y):Bz (e+f+1) (x-y):=Nm.subT hx hy
theorem Bz.neg{e:Nat}{x:Et ts}(hx:Bz e x):Bz e (-x):=Nm.negT hx
theorem Bz.mul{r K e f:Nat}(tw:Tw ts r)(hK:eB r ts.length<=K){x y:Et ts}(hx:Bz e x)(hy:Bz f y):Bz (e+f+K) (x*y):=by
 have h:=Nm.mul tw rfl hx hy;have e1:∀z:Et ts,ae ts.length (sX z)=z:=fun z=>bg _ _
 rw[e1,e1]at h;exact Nm.mono h (Nat.add_le_add_left hK _)
theorem Bz.q{e:Nat}{q:Rat}(h5:ts.length<=5)(hq:Cb e [q]):Bz e (qE q:Et ts):=by
 unfold Bz;rw[tQ];exact Nm.ofQ h5 hq
theorem Bz.qm{e f:Nat}{q:Rat}{x:Et ts}(hq:Cb e [q])(hx:Bz f x):Bz (e+f) (qE q*x):=by
 obtain⟨D,N,h1,h2,h3⟩:=hq;obtain⟨D',N',k1,k2,k3⟩:=hx.cb;obtain⟨n,hn,hN⟩:=h1.2 q (List.mem_singleton.2 rfl);have hx2:ae ts.length (sX x)=x:=bg _ _
 have hd:ae ts.length ((sX x).map (q*·))=T.mul (ax ts) ts.length (T.ofQ ts.length q) (ae ts.length (sX x)):=Ca _ q _ (fun i _=>by
  rw[Xy,XE,Xy];cases(sX x)[i]? with
  |none=>exact(Rat.mul_zero q).symm
  |some v=>rfl)
 rw[hx2]at hd
 have hc:Cb (e+f) ((sX x).map (q*·)):=by
  refine⟨D*D',N*N',⟨Nat.mul_pos h1.1 k1.1,?_⟩,?_,?_⟩
  ·intro z hz;obtain⟨y,hy,rfl⟩:=List.mem_map.1 hz;obtain⟨m,hm,hM⟩:=k1.2 y hy;refine⟨n*m,?_,?_⟩
   ·rw[Int.natCast_mul,Rat.intCast_mul,Rat.intCast_mul,<- hn,<- hm];grind
   ·rw[Int.natAbs_mul];exact Nat.mul_le_mul hN hM
  ·rw[Yb];exact Nat.mul_le_mul h2 k2
  ·rw[Yb];exact Nat.mul_le_mul h3 k3
 have hnl:Nl ts.length ((sX x).map (q*·)):=by
  rcases hx.nl with h |⟨j,hj,h⟩
  ·exact .inl (by rw[h];rfl)
  ·exact .inr ⟨j,hj,by rw[XA];exact h⟩
 refine⟨hx.five,eQ _ _,?_⟩;have:=hc.sh hnl;rw[hd]at this;exact this
theorem Bz.mq{e f:Nat}{q:Rat}{x:Et ts}(hx:Bz f x)(hq:Cb e [q]):Bz (e+f) (x*qE q):=by
 rw[show x*qE q=qE q*x by grind];exact hx.qm hq
theorem Bz.iq{e f:Nat}{q:Rat}{x:Et ts}(hx:Bz f x)(hq:Cb e [q])(h0:q≠0):Bz (e+f) (x*iE (qE q)):=by
 have h:(iE (qE q):Et ts)=qE (1/q):=xl _ _ q;rw[h];exact hx.mq (hq.inv1 h0)
theorem Bz.iv{r f j I:Nat}{y:Et ts}(tw:Tw ts r)(hy:Bz f y)(nb:Nl j (sX y))(hj:j<=ts.length)(h0:am y≠0)(hI:iB r j f<=I)(hs:I<=50000000000):Bz I (iE y):=by
 have hf:=zY r j f;have hl:=kE ts.length;have e1:ae ts.length (sX y)=y:=bg _ _;obtain⟨L,_,k2,k3,k4⟩:=xS (b:=sX y) tw hy hj nb (by rw[e1];exact h0) oz oz;rw[e1]at k4;have:=k3.sh k2;rw[k4]at this;exact⟨tw.five,eQ _ _,this.mono hI⟩
structure Pz(n ec ex:Nat)(p:Pq):Prop where
  c:Nm n ec p.c
  s:Nm n ec p.s
  x:Nm n ex p.x
  y:Nm n ex p.y
theorem Pz.mono{n n' a b a' b':Nat}{p:Pq}(h:Pz n a b p)(hn:n<=n')(h5:n'<=5)(ha:a<=a')(hb:b<=b'):Pz n' a' b' p :=
 ⟨⟨h5,h.c.nl.mono hn,h.c.cb.mono ha⟩,⟨h5,h.s.nl.mono hn,h.s.cb.mono ha⟩,⟨h5,h.x.nl.mono hn,h.x.cb.mono hb⟩,⟨h5,h.y.nl.mono hn,h.y.cb.mono hb⟩⟩
theorem GD{s t e f:Nat}{u p:Rat×Rat}{w o:P2 ts}(hu:Sm t u)(hp:Sm s p)(h0:bY u u≠0)(w1:Bz e w.1)(w2:Bz e w.2)(o1:Bz f o.1)(o2:Bz f o.2) :
  Pz ts.length (2*e+6*t+2) (f+4*e+12*t+2*s+6) (gd u w p o):=by
 have u1:=Cb.one hu.x;have u2:=Cb.one hu.y;have p1:=Cb.one hp.x;have p2:=Cb.one hp.y;have n:=Cb.one (hu.dot hu);have c:=(((w1.qm u1).add (w2.qm u2)).iq n h0).mono (f:=2*e+6*t+2) oz;have d:=(((w2.qm u1).sub (w1.qm u2)).iq n h0).mono (f:=2*e+6*t+2) oz;exact⟨c,d,(o1.sub ((c.mq p1).sub (d.mq p2))).mono oz,(o2.sub ((d.mq p1).add (c.mq p2))).mono oz⟩
theorem qJ{a:List Rat}{e:Nat}(h:Nm ts.length e a):Bz e (dE ts a):=by
 have:=h.cb.sh h.nl;exact⟨h.five,eQ _ _,this⟩
theorem O1{s f:Nat}{p:Rat×Rat}{c d:Rat}{o:P2 ts}{g:Nat}(hc:Cb g [c])(hd:Cb g [d])(hp:Sm s p)(h5:ts.length<=5)(o1:Bz f o.1)(o2:Bz f o.2) :
  Pz ts.length (g+1) (f+2*g+2*s+4) (gd (((1:Int):Rat),0) ((qE c,qE d):P2 ts) p o):=by
 have e0:∀x:Et ts,(qE ((1:Int):Rat):Et ts)*x=x:=fun x=>by
  have:(qE ((1:Int):Rat):Et ts)=1:=rfl;rw[this];grind
 have e1:∀x:Et ts,(qE (0:Rat):Et ts)*x=0:=fun x=>by
  have:(qE (0:Rat):Et ts)=0:=rfl;rw[this];grind
 have e2:(iE (jY (((1:Int):Rat),0)):Et ts)=1:=by
  show iE (qE (bY (((1:Int):Rat),0) (((1:Int):Rat),0)))=_;rw[show bY (((1:Int):Rat),(0:Rat)) (((1:Int):Rat),(0:Rat))=1 by decide +kernel];exact An
 have ec:dt (((1:Int):Rat),0) ((qE c,qE d):P2 ts)=qE c:=by
  unfold dt;rw[e0,e1,e2];grind
 have ed:dc (((1:Int):Rat),0) ((qE c,qE d):P2 ts)=qE d:=by
  unfold dc;rw[e0,e1,e2];grind
 have p1:=Cb.one hp.x;have p2:=Cb.one hp.y;have c1:Bz g (qE c:Et ts):=Bz.q h5 hc;have d1:Bz g (qE d:Et ts):=Bz.q h5 hd;refine⟨?_,?_,?_,?_⟩
 ·show Bz _ (dt _ _);rw[ec];exact c1.mono oz
 ·show Bz _ (dc _ _);rw[ed];exact d1.mono oz
 ·show Bz _ (qd _ _ p o);unfold qd;rw[ec,ed];exact(o1.sub ((c1.mq p1).sub (d1.mq p2))).mono oz
 ·show Bz _ (qi _ _ p o);unfold qi;rw[ec,ed];exact(o2.sub ((d1.mq p1).add (c1.mq p2))).mono oz
structure Xz(ts:LL)(r X:Nat)(us:LL):Prop where
  tw:Tw us (r+X)
  up:ts.length<=us.length
  ln:us.length<=ts.length+1
theorem Ab{r X:Nat}(tw:Tw ts r)(hx:r+X<=5000000000):Xz ts r X ts:=⟨⟨tw.three,tw.len,tw.pos,tw.rb.mono oz,hx⟩,XD _,by omega⟩
theorem xh{r X:Nat}(tw:Tw ts r)(hn:ts.length<=1)(hx:r+X<=5000000000){x:Et ts}(h:Bz X x)(hs:0<=am x):Xz ts r X (aR ts (sX x)) :=
 ⟨B5 tw oz h hx (by rw[show ae ts.length (sX x)=x from bg _ _];exact hs),by rw[dJ];omega,by rw[dJ];omega⟩
theorem Bz.up{e:Nat}{X x:Et ts}(h:Bz e x)(hn:ts.length<=1):Bz e (aL X x):=by
 have h1:Nm (aR ts (sX X)).length e (sX x):=mi h oz;exact qJ h1
structure Szs(n r a b X K K' I J:Nat):Prop where
  n1:n<=1
  hK:eB r n<=K
  hX:24*a+8*K+5*b+23<=X
  hL:r+X<=5000000000
  hK':eB (r+X) (n+1)<=K'
  hI:iB r n (8*a+2*K+8)<=I
  hJ:iB (r+X) n (8*a+2*K+8)<=J
  hJ':J<=50000000000
  kk:K<=K'
  ij:I<=J
theorem Szs.kx{n r a b X K K' I J:Nat}(h:Szs n r a b X K K' I J){us:LL}(hu:us.length<=n+1):eB (r+X) us.length<=K':=XW (ig _ hu) h.hK'
section
variable{r a b X K K' I J:Nat}(Z:Szs ts.length r a b X K K' I J)(tw:Tw ts r)
include Z tw
theorem Bb{p q:P2 ts}(p1:Bz a p.1)(p2:Bz a p.2)(q1:Bz a q.1)(q2:Bz a q.2):Bz (8*a+2*K+5) (dB (aQ q p) (aQ q p)):=by
 have v1:=q1.sub p1;have v2:=q2.sub p2;exact((v1.mul tw Z.hK v1).add (v2.mul tw Z.hK v2)).mono oz
theorem z8{y:Et ts}(hy:Bz (8*a+2*K+8) y)(h0:am y≠0):Bz I (iE y) :=
 hy.iv tw (eQ _ _) (XD _) h0 Z.hI (by have:=Z.ij;have:=Z.hJ';omega)
theorem yS{x y:Et ts}(hx:Bz X x)(hs:0<=am x)(hy:Bz (8*a+2*K+8) y)(h0:am y≠0):Bz J (iE (aL x y)):=by
 have E:=xh tw Z.n1 Z.hL hx hs
 have e1:sX (aL x y)=sX y:=by
  have:=(wD (X:=x) Z.n1 _ y hy).2;exact this
 refine(hy.up Z.n1).iv E.tw (j:=ts.length) (by rw[e1];exact eQ _ _) E.up (by rw[oy];exact h0) Z.hJ Z.hJ'
theorem Bi{x:Et ts}:Bz 1 (dE (aR ts (sX x)) (cw ts.length)):=by have _:=tw;exact qJ (sr (by have:=Z.n1;omega))
theorem Xm{p q:P2 ts}{z z2:Et ts}(p1:Bz a p.1)(p2:Bz a p.2)(q1:Bz a q.1)(q2:Bz a q.2)(hz:Bz b z)(hz2:Bz b z2)(h0:fB p q z z2=0) :
  Xz ts r X (dY p q z z2).ts/\∀m∈(dY p q z z2).ps,Nm (dY p q z z2).ts.length (13*a+2*b+5*K+2*K'+I+J+20) m.1/\Nm (dY p q z z2).ts.length (13*a+2*b+5*K+2*K'+I+J+20) m.2:=by
 have hn:=Z.n1;have hkk:=Z.kk;have hd:Bz (8*a+2*K+5) (aB p q):=Bb Z tw (p:=q) (q:=p) q1 q2 p1 p2;have hm:=(hz.add hd).sub hz2;have q4:Cb 3 [((4:Int):Rat)]:=Cb.int (z:=4) (by decide);have q2':Cb 2 [((2:Int):Rat)]:=Cb.int (z:=2) (by decide);have qm1:Cb 1 [((-1:Int):Rat)]:=Cb.int (z:=-1) (by decide)
 have hX:Bz X (bn p z q z2):=by
  have h:=((hz.mul tw Z.hK hd).qm q4).sub (hm.mul tw Z.hK hm);have h2:=h.mono (f:=X) (by have:=Z.hX;omega);exact h2
 have same:=Ab (X:=X) tw Z.hL;have v1:=q1.sub p1;have v2:=q2.sub p2;unfold fB k9 at h0;unfold dY kP
 by_cases hs:am (aB p q)=0
 ·rw[Yl hs]at h0 ⊢
  by_cases hz0:am (z-z2)≠0
  ·rw[Yl hz0];exact⟨same,fun m hm=>by cases hm⟩
  ·rw[Yk hz0]
   by_cases hp:0<am z
   ·rw[Yl ⟨Decidable.not_not.1 hz0,hp⟩]at h0;cases h0
   ·rw[Yk hp]
    have n0:Bz 0 (0:Et ts):=by
     have:=Bz.q (ts:=ts) (e:=0) (q:=0) oz (Cb.int (z:=0) (by decide));exact this
    refine⟨same,il ⟨?_,?_⟩⟩
    ·exact(p1.add (n0.mul tw Z.hK p1)).mono (f:=13*a+2*b+5*K+2*K'+I+J+20) oz
    ·exact(p2.add (n0.mul tw Z.hK p2)).mono (f:=13*a+2*b+5*K+2*K'+I+J+20) oz
 ·rw [Yk hs];have ht0:am (er (aB p q)) ≠ 0:=by rw [xb tw]; exact hs
  have ht:Bz (8*a+2*K+8) (er (aB p q)):=Bz.mono (e:=2+(8*a+2*K+5)) (hd.qm q2') oz
  by_cases hx0:am (bn p z q z2)<0
  ·rw[Yl hx0];exact⟨same,fun m hm=>by cases hm⟩
  ·rw[Yk hx0];have hk:=hm.mul tw Z.hK (z8 Z tw ht ht0);have f1:Bz (11*a+2*b+4*K+I+10) (c9 p q z z2).1:=(p1.add (hk.mul tw Z.hK v1)).mono oz;have f2:Bz (11*a+2*b+4*K+I+10) (c9 p q z z2).2:=(p2.add (hk.mul tw Z.hK v2)).mono oz
   by_cases hx1:am (bn p z q z2)=0
   ·rw[Yl hx1];exact⟨same,il ⟨f1.mono oz,f2.mono oz⟩⟩
   ·rw [Yk hx1];have hpos:0 <= am (bn p z q z2):=by omega
    have E:=xh tw hn Z.hL hX hpos;have hkx:=Z.kx E.ln;have s1:=(Bi Z tw (x:=bn p z q z2)).mul E.tw hkx (yS Z tw hX hpos ht ht0);have s2:=s1.qm qm1;have w1:=(v2.up (X:=bn p z q z2) hn).qm qm1;have w2:=v1.up (X:=bn p z q z2) hn;have g1:=f1.up (X:=bn p z q z2) hn;have g2:=f2.up (X:=bn p z q z2) hn;exact⟨E,lg ⟨(g1.add (s1.mul E.tw hkx w1)).mono oz,(g2.add (s1.mul E.tw hkx w2)).mono oz⟩ ⟨(g1.add (s2.mul E.tw hkx w1)).mono oz,(g2.add (s2.mul E.tw hkx w2)).mono oz⟩⟩
theorem Xe{p q o:P2 ts}{z:Et ts}(p1:Bz a p.1)(p2:Bz a p.2)(q1:Bz a q.1)(q2:Bz a q.2)(o1:Bz a o.1)(o2:Bz a o.2)(hz:Bz b z)(h0:fJ p q=0) :
  Xz ts r X (dZ p q o z).ts/\∀m∈(dZ p q o z).ps,Nm (dZ p q o z).ts.length (13*a+2*b+5*K+2*K'+I+J+20) m.1/\Nm (dZ p q o z).ts.length (13*a+2*b+5*K+2*K'+I+J+20) m.2:=by
 have hn:=Z.n1;have hkk:=Z.kk;have hS:=(Bb Z tw p1 p2 q1 q2)
 have v1:=q1.sub p1;have v2:=q2.sub p2;have w1:=o1.sub p1;have w2:=o2.sub p2;have hE:Bz (8*a+2*K+5) (bE p q o):=((v1.mul tw Z.hK w1).add (v2.mul tw Z.hK w2)).mono oz;have hC:Bz (8*a+2*K+5) (ib p q o):=((v1.mul tw Z.hK w2).sub (v2.mul tw Z.hK w1)).mono oz;have hX:Bz X (aU p q o z):=((hS.mul tw Z.hK hz).sub (hC.mul tw Z.hK hC)).mono (by have:=Z.hX;omega);have same:=Ab (X:=X) tw Z.hL;unfold fJ at h0;unfold dZ
 by_cases hs:am (bi p q)=0
 ·rw[Yl hs]at h0;cases h0
 ·rw[Yk hs]
  by_cases h1:am (aU p q o z)=-1
  ·rw[Yl h1];exact⟨same,fun m hm=>by cases hm⟩
  ·rw[Yk h1]
   by_cases h2:am (aU p q o z)=0
   ·rw[Yl h2];have hk:=hE.mul tw Z.hK (z8 Z tw (hS.mono oz) hs);exact⟨same,il ⟨(p1.add (hk.mul tw Z.hK v1)).mono (f:=13*a+2*b+5*K+2*K'+I+J+20) oz,(p2.add (hk.mul tw Z.hK v2)).mono (f:=13*a+2*b+5*K+2*K'+I+J+20) oz⟩⟩
   ·rw[Yk h2]
    have hpos:0<=am (aU p q o z):=by
     have:=T.sgn_cases (ax ts) ts.length (aU p q o z);have e:am (aU p q o z)=T.sgn (ax ts) ts.length (aU p q o z):=rfl;omega
    have E:=xh tw hn Z.hL hX hpos;have hkx:=Z.kx E.ln;have hi:=yS Z tw hX hpos (hS.mono oz) hs;have rt:=Bi Z tw (x:=aU p q o z);have k1:=((hE.up (X:=aU p q o z) hn).add rt).mul E.tw hkx hi;have k2:=((hE.up (X:=aU p q o z) hn).sub rt).mul E.tw hkx hi;have g1:=p1.up (X:=aU p q o z) hn;have g2:=p2.up (X:=aU p q o z) hn;have u1:=v1.up (X:=aU p q o z) hn;have u2:=v2.up (X:=aU p q o z) hn;exact⟨E,lg ⟨(g1.add (k1.mul E.tw hkx u1)).mono oz,(g2.add (k1.mul E.tw hkx u2)).mono oz⟩ ⟨(g1.add (k2.mul E.tw hkx u1)).mono oz,(g2.add (k2.mul E.tw hkx u2)).mono oz⟩⟩
end
end
def Cs(s:Nat)(l:Li):Prop:=∀b∈l.bo,∀m∈b.pts,Qb s m.x.q/\Qb s m.y.q
section
variable{s:Nat}{l:Li}(hl:l.ok)(hli:aA l=0)(hcs:Cs s l)
include hl hli hcs
theorem tN{body pt:Int}(h1:bu body l.bo.length=true)(h2:bu pt (cA l body).length=true):Sm s (aS l body pt):=by
 obtain⟨n,k,bd,m,h⟩:=oD hl hli h1 h2;obtain⟨c1,c2⟩:=hcs bd (Xx h.gbd) m (Xx h.gm);rw[h.ex,bV]at c1;rw[h.ey,bV]at c2;exact⟨c1,c2⟩
theorem oQ{i:Nat}{j:Jt}(hj:l.jo[i]?=some j){b:Int}(h:j.a=b\/j.b=b):Sm s (ak l j b):=by
 obtain⟨i1,i2,i3,i4,_⟩:=cO hli hj;unfold ak
 by_cases e:j.a=b
 ·rw[Yl e];subst e;exact tN hl hli hcs i1 i3
 ·rw[Yk e];rcases h with h |h
  ·exact absurd h e
  ·subst h;exact tN hl hli hcs i2 i4
theorem sa{E r K:Nat}{a:As}(al:AB a)(hc:bC a.rs=0)(tw:Tw (llq a.rs) r)(hK:eB r (llq a.rs).length<=K){body pt:Int}(h1:bu body l.bo.length=true)(h2:bu pt (cA l body).length=true)(hb:Pd E a body) :
  Bz (3*E+2*s+2*K+10) (bh l a body pt).1/\Bz (3*E+2*s+2*K+10) (bh l a body pt).2:=by
 obtain⟨n,k,bd,m,b,hp⟩:=tU hl hli al hc h1 h2 hb;obtain⟨c1,c2⟩:=hcs bd (Xx hp.mp.gbd) m (Xx hp.mp.gm);have h:=uA tw hp.ok c1 c2;have hk:kB r (llq a.rs).length<=K:=hK;unfold bh Bz;rw[hp.eq];exact⟨h.1.mono oz,h.2.mono oz⟩
theorem si{E r K:Nat}{a:As}(al:AB a)(hc:bC a.rs=0)(tw:Tw (llq a.rs) r)(hK:eB r (llq a.rs).length<=K){i:Nat}{j:Jt}(hj:l.jo[i]?=some j){b:Int}(h:PinP E l a j b) :
  Bz (3*E+2*s+2*K+10) (aG l a j b).1/\Bz (3*E+2*s+2*K+10) (aG l a j b).2:=by
 obtain⟨i1,i2,i3,i4,_⟩:=cO hli hj;unfold aG;rcases h.tie with⟨e,hb⟩ |⟨e,e2,hb⟩
 ·rw[Yl e];exact sa hl hli hcs al hc tw hK i2 i4 hb
 ·rw[Yk e];exact sa hl hli hcs al hc tw hK i1 i3 hb
end
theorem Bz.upX{ts us:LL}{e:Nat}{x:Et ts}(h:Bz e x)(h1:ts.length<=us.length)(h5:us.length<=5):Bz e (dE us (sX x)):=qJ ⟨h5,Nl.mono h.nl h1,h.cb⟩
theorem Bf{s:Nat}{p q:Rat×Rat}(hp:Sm s p)(hq:Sm s q):Cb (8*s+5) [bF p q]:=by
 have h:=(hp.sub hq).dot (hp.sub hq);exact Cb.one (h.mono oz)
abbrev wZ(a b K K' I J:Nat):Nat:=14*a+3*b+5*K+3*K'+I+J+25
abbrev oZ(s a b K K' I J:Nat):Nat:=a+4*wZ a b K K' I J+26*s+18
theorem yW{n a b ec ex e:Nat}{p:Pq}(h:Pz n ec ex p)(h1:ec<=e)(h2:ex<=e):Pq.ok n e p:=⟨h.c.mono h1,h.s.mono h1,h.x.mono h2,h.y.mono h2⟩
section
variable{ts:LL}{r a b X K K' I J:Nat}(Z:Szs ts.length r a b X K K' I J)(tw:Tw ts r)
include Z tw
theorem Iq{s:Nat}{m:Mt}(hx:Xz ts r X m.ts)(hm:∀x∈m.ps,Nm m.ts.length (13*a+2*b+5*K+2*K'+I+J+20) x.1/\Nm m.ts.length (13*a+2*b+5*K+2*K'+I+J+20) x.2){hs:List Hd}
  (hh:∀h∈hs,Sm s h.p/\Sm s h.c/\bY (cq h.c h.p) (cq h.c h.p)≠0/\∃o:P2 ts,h.a=P2.l o/\Bz a o.1/\Bz a o.2) :
  ∀sv∈jq m hs,Xz ts r X sv.ts/\∀p∈sv.ps,Pq.ok sv.ts.length (oZ s a b K K' I J) p:=by
 have _:=Z;have _:=tw;intro sv h1;unfold jq at h1;obtain⟨i,hi,rfl⟩:=List.mem_map.1 h1;obtain⟨x,hxx⟩:=aw (List.mem_range.1 hi);obtain⟨n1,n2⟩:=hm x (Xx hxx);refine⟨hx,fun p hp=>?_⟩;unfold jp at hp;rw[aq hxx]at hp;obtain⟨h,h2,rfl⟩:=List.mem_map.1 hp;obtain⟨hp1,hc1,h0,o,ea,o1,o2⟩:=hh h h2;have h5:=hx.tw.five;have u1:=o1.upX hx.up h5;have u2:=o2.upX hx.up h5;have w1:=qJ n1;have w2:=qJ n2;have e1:h.a.1=sX o.1:=by rw[ea]
 have e2:h.a.2=sX o.2:=by rw[ea]
 have z:=GD (ts:=m.ts) (u:=cq h.c h.p) (p:=h.p) (w:=jy m.ts h x) (o:=ky m.ts h) (e:=13*a+2*b+5*K+2*K'+I+J+20+a+1) (f:=a) (hc1.sub hp1) hp1 h0
  (by unfold jy;rw[e1];exact w1.sub u1) (by unfold jy;rw[e2];exact w2.sub u2) (by unfold ky;rw[e1];exact u1) (by unfold ky;rw[e2];exact u2)
 exact yW (a:=a) (b:=b) z (by show _<=a+4*(14*a+3*b+5*K+3*K'+I+J+25)+26*s+18;omega) (by show _<=a+4*(14*a+3*b+5*K+3*K'+I+J+25)+26*s+18;omega)
theorem QX{s:Nat}{us:LL}(hx:Xz ts r X us){R:Rp}{q:List Rat}(hv:Sm (2*s+1) R.v)(hp:Sm s R.p)(h0:bY R.v R.v≠0)(hq:Bz 1 (dE us q))(w1:Bz (2*a+1) (dE us R.w.1))(w2:Bz (2*a+1) (dE us R.w.2))(hh:Bz b (dE us R.h))
  (hd:Bz J (iE (dE us R.d))) (a1:Bz a (dE us R.a.1)) (a2:Bz a (dE us R.a.2)):Pq.ok us.length (oZ s a b K K' I J) (no us R q):=by
 have _:=tw;have hkx:=Z.kx hx.ln;have x1:=(((hq.mul hx.tw hkx w1).sub (hh.mul hx.tw hkx w2.neg)).mul hx.tw hkx hd)
 have x2:=(((hq.mul hx.tw hkx w2).sub (hh.mul hx.tw hkx w1)).mul hx.tw hkx hd)
 have z:=GD (ts:=us) (u:=R.v) (p:=R.p) (w:=mM us q R.h R.d R.w) (o:=(dE us R.a.1,dE us R.a.2)) (e:=wZ a b K K' I J) (f:=a) hv hp h0
  (x1.mono (by show _<=14*a+3*b+5*K+3*K'+I+J+25;omega)) (x2.mono (by show _<=14*a+3*b+5*K+3*K'+I+J+25;omega)) a1 a2
 exact yW (a:=a) (b:=b) z (by show _<=a+4*(14*a+3*b+5*K+3*K'+I+J+25)+26*s+18;simp only[wZ];omega) (by show _<=a+4*(14*a+3*b+5*K+3*K'+I+J+25)+26*s+18;simp only[wZ];omega)
end
section
variable{s r b X K K' I J E:Nat}{l:Li}{a:As}(D:DyR l a)(hn:(llq a.rs).length<=1)(hcs:Cs s l)(tw:Tw (llq a.rs) r)
  (Z:Szs (llq a.rs).length r (3*E+2*s+2*K+10) b X K K' I J) (hb:8*s+5<=b)
include D hn hcs tw Z hb
theorem KL{g:Gr}{i k z0 z1 z2:Int}{j0 j1 j2:Jt}(P:RrrP E l a g i k z0 z1 z2 j0 j1 j2) :
  ∀sv∈jb l a i k j0 j1 j2,Xz (llq a.rs) r X sv.ts/\∀p∈sv.ps,Pq.ok sv.ts.length (oZ s (3*E+2*s+2*K+10) b K K' I J) p:=by
 have _:=hn;have hq0:=oQ D.hl D.li hcs P.h0 P.p0.or;have hq1:=oQ D.hl D.li hcs P.h1 P.p1.or;have hq2:=oQ D.hl D.li hcs P.h2 P.t1;have hq3:=oQ D.hl D.li hcs P.h2 P.t2;obtain⟨y1,y2⟩:=si D.hl D.li hcs D.al D.hc tw Z.hK P.h0 P.p0;obtain⟨y3,y4⟩:=si D.hl D.li hcs D.al D.hc tw Z.hK P.h1 P.p1;have z1:Bz b (qE (bF (ak l j2 i) (ak l j0 i)):Et (llq a.rs)):=Bz.q tw.five ((Bf hq2 hq0).mono hb);have z2:Bz b (qE (bF (ak l j2 k) (ak l j1 k)):Et (llq a.rs)):=Bz.q tw.five ((Bf hq3 hq1).mono hb);unfold jb
 by_cases h1:gx [cq (ak l j2 i) (ak l j0 i),cq (ak l j2 k) (ak l j1 k)]=true
 ·rw[Yl h1];intro sv h;cases h
 ·rw[Yk h1];obtain⟨w1,w2⟩:=rS (Bool.eq_false_iff.2 h1)
  by_cases h2:fB (aG l a j0 i) (aG l a j1 k) (qE (bF (ak l j2 i) (ak l j0 i))) (qE (bF (ak l j2 k) (ak l j1 k)))≠0
  ·rw[Yl h2];intro sv h;cases h
  ·rw[Yk h2];obtain⟨hx,hm⟩:=Xm Z tw y1 y2 y3 y4 z1 z2 (Decidable.not_not.1 h2);exact Iq Z tw hx hm (lg ⟨hq0,hq2,w1,_,rfl,y1,y2⟩ ⟨hq1,hq3,w2,_,rfl,y3,y4⟩)
theorem Wp{g:Gr}{i z0 z1:Int}{j0 j:Jt}(P:SlP E l a g 2 i z0 z1 j0 j)(ha:j.a=i)(hbd:Pd E a j.b) :
  ∀sv∈jk l a i j0 j,Xz (llq a.rs) r X sv.ts/\∀p∈sv.ps,Pq.ok sv.ts.length (oZ s (3*E+2*s+2*K+10) b K K' I J) p:=by
 have _:=hn;obtain⟨i1,i2,i3,i4,i5⟩:=cO D.li P.h1;have hq2:Sm s (aS l i j.point):=by rw[<- ha];exact tN D.hl D.li hcs i1 i3
 have hq0:=oQ D.hl D.li hcs P.h0 P.p0.or;obtain⟨y1,y2⟩:=si D.hl D.li hcs D.al D.hc tw Z.hK P.h0 P.p0;obtain⟨y3,y4⟩:=sa D.hl D.li hcs D.al D.hc tw Z.hK i2 i4 hbd;obtain⟨y5,y6⟩:=sa D.hl D.li hcs D.al D.hc tw Z.hK i2 (i5 P.hk) hbd;have z1:Bz b (qE (bF (aS l i j.point) (ak l j0 i)):Et (llq a.rs)):=Bz.q tw.five ((Bf hq2 hq0).mono hb);unfold jk
 by_cases h1:gx [cq (aS l i j.point) (ak l j0 i)]=true
 ·rw[Yl h1];intro sv h;cases h
 ·rw[Yk h1];have w1:=r4 (Bool.eq_false_iff.2 h1)
  by_cases h2:fJ (bh l a j.b j.on) (bh l a j.b j.to)≠0
  ·rw[Yl h2];intro sv h;cases h
  ·rw[Yk h2];obtain⟨hx,hm⟩:=Xe Z tw y3 y4 y5 y6 y1 y2 z1 (Decidable.not_not.1 h2);exact Iq Z tw hx hm (il ⟨hq0,hq2,w1,_,rfl,y1,y2⟩)
theorem Vf{g:Gr}{i z0 z1:Int}{j0 j:Jt}(P:SlP E l a g 3 i z0 z1 j0 j)(hj:j.b=i)(hbd:Pd E a j.a) :
  ∀sv∈jN l a i j0 j,Xz (llq a.rs) r X sv.ts/\∀p∈sv.ps,Pq.ok sv.ts.length (oZ s (3*E+2*s+2*K+10) b K K' I J) p:=by
 obtain⟨i1,i2,i3,i4,i5⟩:=cO D.li P.h1;have hs0:=oQ D.hl D.li hcs P.h0 P.p0.or;have hs1:Sm s (aS l i j.on):=by rw[<- hj];exact tN D.hl D.li hcs i2 i4
 have hs2:Sm s (aS l i j.to):=by rw[<- hj];exact tN D.hl D.li hcs i2 (i5 P.hk)
 have hv:Sm (2*s+1) (cr l i j):=(hs2.sub hs1).mono oz;have qn:Cb b [iR l i j]:=(Cb.one (hv.dot hv)).mono oz;have qh:Cb b [cm l i j0 j]:=(Cb.one (hv.cross (hs1.sub hs0))).mono oz;obtain⟨o1,o2⟩:=si D.hl D.li hcs D.al D.hc tw Z.hK P.h0 P.p0;obtain⟨p1,p2⟩:=sa D.hl D.li hcs D.al D.hc tw Z.hK i1 i3 hbd;have w1:Bz (2*(3*E+2*s+2*K+10)+1) (bU l a i j0 j).1:=Bz.mono (p1.sub o1) oz;have w2:Bz (2*(3*E+2*s+2*K+10)+1) (bU l a i j0 j).2:=Bz.mono (p2.sub o2) oz;have hd:Bz (8*(3*E+2*s+2*K+10)+2*K+8) (cc l a i j0 j):=Bz.mono (Bb Z tw (p:=aG l a j0 i) (q:=bh l a j.a j.point) o1 o2 p1 p2) oz;have hX:Bz X (bq l a i j0 j):=Bz.mono ((hd.qm qn).sub ((Bz.q tw.five qh).qm qh)) (by have:=Z.hX;omega);have h0:=wT D.li P.h1 P.hk hj;unfold jN
 by_cases h1:am (cc l a i j0 j)=0/\am (qE (cm l i j0 j):Et (llq a.rs))=0
 ·rw[Yl h1];intro sv h;cases h
 ·rw[Yk h1]
  by_cases h2:am (bq l a i j0 j)<0
  ·rw[Yl h2];intro sv h;cases h
  ·rw[Yk h2];have hd0:am (cc l a i j0 j)≠0:=sC tw h2 h1
   have key:∀us,Xz (llq a.rs) r X us->Bz J (iE (dE us (sX (cc l a i j0 j))))->∀q,Bz 1 (dE us q)->Pq.ok us.length (oZ s (3*E+2*s+2*K+10) b K K' I J) (no us (di l a i j0 j) q):=by
    intro us hx hi q hq;have h5:=hx.tw.five
    have hh:Bz b (dE us (sh 0 (cm l i j0 j:Rat))):=by
     have e:dE us (sh 0 (cm l i j0 j:Rat))=qE (cm l i j0 j):=gM _ _;rw[e];exact Bz.q h5 qh
    exact QX Z tw hx (R:=di l a i j0 j) hv hs0 h0 hq (w1.upX hx.up h5) (w2.upX hx.up h5) hh hi (o1.upX hx.up h5) (o2.upX hx.up h5)
   by_cases h3:0<am (bq l a i j0 j)
   ·rw [Yl h3];have hx:=xh tw hn Z.hL hX oz;have hi:=yS Z tw hX (by omega:0 <= am (bq l a i j0 j)) hd hd0;have rt:=Bi Z tw (x:=bq l a i j0 j);have k:=key _ hx hi;intro sv h;unfold jw at h;obtain ⟨n,hn2,rfl⟩:=List.mem_map.1 h;refine ⟨hx,fun p hp=>?_⟩;unfold iH at hp;rw [List.mem_singleton.1 hp]
    match n,List.mem_range.1 hn2 with
    |0,_=>exact k _ rt
    |1,_ =>
     refine k _ ?_;show Bz 1 (dE _ (sX (-bt (bq l a i j0 j))));have e:dE (aR (llq a.rs) (sX (bq l a i j0 j))) (sX (-bt (bq l a i j0 j)))=-bt (bq l a i j0 j):=bg _ _;rw[e];exact rt.neg
   ·rw[Yk h3];have hx:=Ab (X:=X) tw Z.hL;have e:dE (llq a.rs) (sX (cc l a i j0 j))=cc l a i j0 j:=bg _ _
    have hi:Bz J (iE (dE (llq a.rs) (sX (cc l a i j0 j)))):=by
     rw[e];exact(z8 Z tw hd hd0).mono Z.ij
    have k:=key _ hx hi;intro sv h;unfold jw at h;obtain⟨n,hn2,rfl⟩:=List.mem_map.1 h;refine⟨hx,fun p hp=>?_⟩;unfold iH at hp;rw[List.mem_singleton.1 hp]
    match n,List.mem_range.1 hn2 with
    |0,_=>exact k _ (qJ ⟨tw.five,.inl rfl,⟨1,0,⟨by decide,fun q h=>by cases h⟩,by decide,by decide⟩⟩)
end
theorem F1{k:List Bool}{i:Nat}{b:Int}(h:kn (k.set i true) b=true):kn k b=true\/i=b.toNat:=by
 unfold kn at h ⊢
 by_cases e:i=b.toNat
 ·exact .inr e
 ·rw[Xy,List.getElem?_set_ne e,<- Xy]at h;exact .inl h
theorem BA:∀(bs:List Int){k:List Bool}{b:Int},kn (bA k bs) b=true->kn k b=true\/∃x∈bs,x.toNat=b.toNat
 |[],k,b,h=>.inl h
 |x::bs,k,b,h=>by
  have h:kn (bA (k.set x.toNat true) bs) b=true:=h;rcases BA bs h with h |⟨y,hy,e⟩
  ·rcases F1 h with h |h
   ·exact .inl h
   ·exact .inr ⟨x,X7,h⟩
  ·exact .inr ⟨y,X8 _ hy,e⟩
def sH(l:Li)(kw:List Bool)(out:List Gr):Prop:=∀d∈l.dv,kn kw d.body=true->∃g∈out,g.kind=0/\g.bo=[d.body]
theorem La{l:Li}{d:Dr}(hd:d∈l.dv){b:Int}(h:d.body=b):mx l b=true:=by
 unfold mx;rw[List.any_eq_true];exact⟨d,hd,by simp[h]⟩
theorem I9{l:Li}{kw:List Bool}{g:Gr}(h:pairG l kw=some g):∀x∈g.bo,freeB l kw x=true:=by
 unfold pairG at h;rw[XB]at h;obtain⟨i,hi,h⟩:=h;obtain⟨h1,h2⟩:=ff hi;split at h
 ·rename_i k hk;subst h;unfold prAt at hk;rw [XB] at hk;obtain ⟨k',hk',rfl⟩:=hk;obtain ⟨h3,h4⟩:=ff hk';rw [show i + 1 + k' = k' + (i + 1) by omega] at h4;unfold prHit at h4;simp only [Bool.not_eq_false',XF,decide_eq_true_eq] at h4;obtain ⟨⟨f1,f2⟩,_⟩:=h4;intro x hx;simp only [prG,X6,XV,or_false] at hx;rcases hx with rfl | rfl
  ·exact f1
  ·exact f2
 ·rename_i hk;rw[hk]at h2;cases h2
theorem H9{l:Li}{kw:List Bool}{g:Gr}(h:singleG l kw=some g):∀x∈g.bo,freeB l kw x=true:=by
 unfold singleG at h;rw[XB]at h;obtain⟨i,hi,rfl⟩:=h;obtain⟨h1,h2⟩:=ff hi;unfold sgHit at h2;simp only[Bool.not_eq_false',XF,decide_eq_true_eq]at h2;intro x hx;simp only[sgG,X6,XV,or_false]at hx;subst hx;exact h2.1
theorem O9{l:Li}(hl:aA l=0){kw:List Bool}{out:List Gr}{g:Gr}(h:sH l kw out)(hg:nextG l kw=some g):sH l (bA kw g.bo) (out++[g]):=by
 intro d hd hk;have ho:=wK hl hg;rcases BA g.bo hk with h1 |⟨x,hx,e⟩
 ·obtain⟨g',h2,h3⟩:=h d hd h1;exact⟨g',List.mem_append_left _ h2,h3⟩
 ·obtain ⟨i, hi⟩:=Yd hd;have hb:=cW (lc hl hi);have hx0:=(ho.b x hx).1;have ex:d.body = x:=by omega
  unfold nextG at hg;cases h1:driverG l kw with
  |some g' =>
   rw[h1]at hg;cases hg
   refine⟨g,List.mem_append_right _ (List.mem_singleton.2 rfl),?_⟩;unfold driverG at h1;rw[XB]at h1;obtain⟨i,_,rfl⟩:=h1;refine⟨rfl,?_⟩;rw[List.mem_singleton.1 hx]at ex;rw[ex]
  |none =>
   rw[h1]at hg
   have hf:freeB l kw x=true:=by
    cases h2:pairG l kw with
    |some g'=>rw[h2]at hg;cases hg;exact I9 h2 x hx
    |none=>rw[h2]at hg;exact H9 hg x hx
   unfold freeB at hf;rw[La hd ex]at hf;simp at hf
theorem E0{l:Li}(hl:aA l=0):∀(n:Nat)(kw:List Bool)(out:List Gr),sH l kw out->sH l (findFrom l n kw out).1 (findFrom l n kw out).2
 |0,kw,out,h=>h
 |n+1,kw,out,h=>by
  unfold findFrom;cases hg:nextG l kw with
  |none=>exact h
  |some g=>exact E0 hl n _ _ (O9 hl h hg)
theorem wE{l:Li}(hl:aA l=0){i:Nat}{d:Dr}(hd:l.dv[i]?=some d):d.body≠0/\∀j d',j<i->l.dv[j]?=some d'->d'.body≠d.body:=by
 have h1:=(cK hl).2.2.1;unfold fu at h1;split at h1
 ·cases h1
 ·have h2:=nD h1 i (List.getElem?_eq_some_iff.1 hd).1;unfold dM at h2;rw[aq hd]at h2;split at h2
  ·cases h2
  ·split at h2
   ·cases h2
   ·split at h2
    ·cases h2
    ·split at h2
     ·cases h2
     ·rename_i h4;split at h2
      ·cases h2
      ·rename_i h5;refine⟨h4,fun j d' hj hd' e=>h5 ?_⟩;rw[List.any_eq_true];exact⟨d',Xx (by rw[X0,Yl hj];exact hd'),by simpa using e⟩
theorem Fn{α:Type}{p:α->Bool}:∀{l:List α}{x y:α},x∈l->y∈l->x≠y->p x=true->p y=true->2<=l.countP p
 |z::l,x,y,hx,hy,hn,px,py=>by
  have pos:∀w,w∈l->p w=true->0<l.countP p:=fun w hw pw=>List.countP_pos_iff.2 ⟨w,hw,pw⟩
  rcases List.mem_cons.1 hx with e |hx
  ·rcases List.mem_cons.1 hy with e2 |hy
   ·exact absurd (e.trans e2.symm) hn
   ·have h9:=pos y hy py;rw[List.countP_cons_of_pos (e▸px)];omega
  ·rcases List.mem_cons.1 hy with e |hy
   ·have h9:=pos x hx px;rw[List.countP_cons_of_pos (e▸py)];omega
   ·have:=Fn hx hy hn px py;rw[List.countP_cons];omega
theorem wA{l:Li}(hl:aA l=0):l.dv.length<=2:=by
 have h1:=(cK hl).2.2.1;unfold fu at h1;split at h1
 ·cases h1
 ·omega
theorem DB{l:Li}(hl:aA l=0)(hs:splitE l=0):∀d∈l.dv,∃g∈splitG l,g.kind=0/\g.bo=[d.body]:=by
 have h0:sH l (cF l.bo.length 0) []:=by
  intro d hd hk;obtain⟨i,hi⟩:=Yd hd;have hb:=cW (lc hl hi);rw[oq oz oz oz]at hk;exact absurd (of_decide_eq_true hk) (wE hl hi).1
 have h1:=E0 hl l.bo.length _ _ h0;rw[Jr]at h1;intro d hd;obtain⟨i,hi⟩:=Yd hd;have hb:=cW (lc hl hi)
 have hz:(eH (bS l)).length=0:=by
  unfold splitE at hs;split at hs
  ·omega
  ·cases hs
 rw[wa]at hz
 have hlen:(bS l).length=l.bo.length:=by
  have:∀(gs:List Gr)(k:List Bool),(gs.foldl (fun k g=>bA k g.bo) k).length=k.length:=by
   intro gs
   induction gs with
   |nil=>intro k;rfl
   |cons g gs ih=>intro k;rw[foldl_cons,ih,jG]
  unfold bS;rw[this,gT]
 have hk:kn (bS l) d.body=true:=by
  unfold kn;rw[Xy,XC (by omega:d.body.toNat<(bS l).length)];show(bS l)[d.body.toNat]=true;cases hv:(bS l)[d.body.toNat]'oz with
  |true=>rfl
  |false =>
   exfalso;have hm:false∈bS l:=hv▸List.getElem_mem _;rw[<- List.contains_iff_mem]at hm;rw[hm]at hz;cases hz
 obtain⟨g,hg,h2⟩:=h1 d hd hk;refine⟨g,?_,h2⟩;unfold splitG;rw[Yl hs];exact hg
theorem To{l:Li}(hl:aA l=0)(hs:splitE l=0):l.dv.length<=(splitG l).countP (fun g=>decide (g.kind=0)):=by
 have h2:=wA hl;have hg:=DB hl hs
 match hd:l.dv with
 |[]=>simp
 |[d] =>
  obtain⟨g,h3,h4,_⟩:=hg d (by rw[hd];simp);exact List.countP_pos_iff.2 ⟨g,h3,by simpa using h4⟩
 |[d,d'] =>
  obtain⟨g,h3,h4,h5⟩:=hg d (by rw[hd];simp);obtain⟨g',h3',h4',h5'⟩:=hg d' (by rw[hd];simp);refine Fn h3 h3' ?_ (by simpa using h4) (by simpa using h4');intro e;rw[e,h5']at h5;exact(wE hl (i:=1) (d:=d') (by rw[hd];rfl)).2 0 d oz (by rw[hd];rfl) (by simpa using h5.symm)
 |_::_::_::_=>rw[hd]at h2;simp only[XK]at h2;omega
structure Aq where
  ts:LL
  bs:List Pq
  ms:List Int
instance:Inhabited Pq:=⟨⟨[],[],[],[]⟩⟩
instance:Inhabited Aq:=⟨⟨[],[],[]⟩⟩
def Pq.pl(p:Pq):Pl:=⟨p.c.map rt,p.s.map rt,p.x.map rt,p.y.map rt⟩
def Aq.as(a:Aq):As:=⟨a.ts.map (List.map rt),a.bs.map Pq.pl,a.ms⟩
theorem Pq.pl_av(p:Pq):p.pl.av=p.av:=by unfold Pl.av Pq.av Pq.pl;rw[eZ,eZ,eZ,eZ]
abbrev Aq.cs(a:Aq):List AV:=[.lst 1 (a.ts.map nA),.lst 4 (a.bs.map Pq.av),.lst 1 (a.ms.map i64)]
abbrev Aq.av(a:Aq):AV:=.agg a.cs
theorem Aq.as_av(a:Aq):a.as.av=a.av:=by
 unfold As.av Aq.as Aq.av Aq.cs;rw[map_map,map_map];congr 3
 ·exact List.map_congr_left (fun x _=>eZ x)
 ·congr 1;exact List.map_congr_left (fun x _=>Pq.pl_av x)
theorem Aq.llq(a:Aq):Lw.llq a.as.rs=a.ts:=rj _
def a7(bs:List Pq)(is:List Int)(ps:List Pq):List Pq:=(is.zip ps).foldl (fun k x=>k.set x.1.toNat x.2) bs
def Aq.nxt(a:Aq)(g:Gr)(s:Sv):Aq:=⟨s.ts,a7 a.bs g.bo s.ps,a.ms++[s.mode]⟩
def bb:Pq:=⟨[],[],[],[]⟩
def kc:Pq:=⟨[1],[],[],[]⟩
def eO(l:Li):Aq:=⟨[],(List.replicate l.bo.length bb).set 0 kc,[]⟩
def cZ:Tn:=⟨⟨false,[],[]⟩,false⟩
def cz(g:Gr)(xs:List Tn):Tn:=if g.kind=0 then xs.getD g.driver.toNat cZ else cZ
theorem EP:∀(zs:List (Int×Pq))(bs:List Pq),(zs.foldl (fun k x=>k.set x.1.toNat x.2) bs).length=bs.length
 |[],bs=>rfl
 |z::zs,bs=>by rw[foldl_cons,EP zs,Yj]
theorem CJ:∀(zs:List (Int×Pq))(bs:List Pq)(p:Pq),p∈zs.foldl (fun k x=>k.set x.1.toNat x.2) bs->p∈bs\/∃z∈zs,z.2=p
 |[],bs,p,h=>.inl h
 |z::zs,bs,p,h=>by
  rw[foldl_cons]at h;rcases CJ zs _ p h with h |⟨z',hz,e⟩
  ·rcases List.mem_or_eq_of_mem_set h with h |h
   ·exact .inl h
   ·exact .inr ⟨z,X7,h.symm⟩
  ·exact .inr ⟨z',X8 _ hz,e⟩
theorem vZ(bs:List Pq)(is:List Int)(ps:List Pq):(a7 bs is ps).length=bs.length:=EP _ _
theorem Dl{bs:List Pq}{is:List Int}{ps:List Pq}{p:Pq}(h:p∈a7 bs is ps):p∈bs\/p∈ps:=by
 rcases CJ _ _ _ h with h |⟨z,hz,e⟩
 ·exact .inl h
 ·exact .inr (e▸(List.of_mem_zip hz).2)
theorem LI{bs:List Pq}{is:List Int}{ps:List Pq}{i:Nat}{b:Int}{p:Pq}(hb:is[i]?=some b)(hp:ps[i]?=some p) :
  a7 bs (is.take (i+1)) (ps.take (i+1))=(a7 bs (is.take i) (ps.take i)).set b.toNat p:=by
 have h1:is.take (i+1)=is.take i++[b]:=by rw[List.take_add_one,hb];rfl
 have h2:ps.take (i+1)=ps.take i++[p]:=by rw[List.take_add_one,hp];rfl
 have hl1:=(List.getElem?_eq_some_iff.1 hb).1;have hl2:=(List.getElem?_eq_some_iff.1 hp).1;unfold a7;rw[h1,h2,List.zip_append (by rw[XO,XO];omega),List.foldl_append];rfl
def lr(s j r E:Nat):Nat:=3*E+2*s+2*eB r j+10
def kJ(s j r E:Nat):Nat:=24*lr s j r E+8*eB r j+5*(8*s+5)+23
def FK(s j r E:Nat):Nat:=iB r j (8*lr s j r E+2*eB r j+8)
def wg(s j r E:Nat):Nat:=iB (r+kJ s j r E) j (8*lr s j r E+2*eB r j+8)
def r7(s j r E:Nat):Nat:=oZ s (lr s j r E) (8*s+5) (eB r j) (eB (r+kJ s j r E) (j+1)) (FK s j r E) (wg s j r E)
def nE(s g j r E:Nat):Nat:=lr s j r E+2*g+2*s+4
def eI(s g:Nat):Nat->Nat->Nat->Nat->Nat->Bool
  |0,_,j,r,E=>decide (E<=3200000000/\r<=60000000/\j<=2)
  |n+1,y,j,r,E=>decide (E<=3200000000/\r<=60000000/\j<=2)&&(eI s g n y j r (nE s g j r E) &&
      (decide (y=0)||(decide (j<=1/\E<=3900000/\r<=64990/\r+kJ s j r E<=5000000000/\wg s j r E<=50000000000)&&eI s g n (y-1) (j+1) (r+kJ s j r E) (r7 s j r E))))
theorem C9:eI 32 134 3 1 0 0 2=true:=by decide +kernel
theorem Q3:eI 9 42 4 2 0 0 2=true:=by decide +kernel
theorem Ag{s g n y j r E:Nat}(h:eI s g n y j r E=true):E<=3200000000/\r<=60000000/\j<=2:=by
 cases n with
 |zero=>exact of_decide_eq_true h
 |succ n =>
  unfold eI at h;simp only[XF,decide_eq_true_eq]at h;exact⟨h.1.1,h.1.2.1,h.1.2.2⟩
theorem ED{s g n y j r E:Nat}(h:eI s g n y j r E=true):E<=3200000000/\r<=400000000/\j<=2:=by
 have:=Ag h;omega
theorem JP{s g n y j r E:Nat}(h:eI s g n y j r E=true):E<=50000000000/\r<=400000000/\j<=2:=by
 have:=ED h;omega
theorem r5{s g n y j r E:Nat}(h:eI s g (n+1) y j r E=true):(E<=20000000000/\r<=400000000/\j<=2)/\eI s g n y j r (nE s g j r E)=true:=by
 unfold eI at h;simp only[XF,decide_eq_true_eq]at h;exact⟨⟨by omega,by omega,by omega⟩,h.2.1⟩
theorem tC{s g n y j r E:Nat}(h:eI s g (n+1) (y+1) j r E=true):(j<=1/\E<=3900000/\r<=64990/\r+kJ s j r E<=5000000000/\wg s j r E<=50000000000)/\eI s g n y (j+1) (r+kJ s j r E) (r7 s j r E)=true:=by
 unfold eI at h;simp only[XF,Yf,decide_eq_true_eq,Nat.add_sub_cancel]at h;rcases h.2.2 with h1 |h1
 ·omega
 ·exact h1
structure QInv(l:Li)(j r E:Nat)(a:Aq):Prop where
  tw:Tw a.ts r
  lv:a.ts.length<=j
  bs:∀p∈a.bs,Pq.ok a.ts.length E p
  ln:a.bs.length=l.bo.length
theorem Pq.ok.up{n n' e e':Nat}{p:Pq}(h:Pq.ok n e p)(hn:n<=n')(h5:n'<=5)(he:e<=e'):Pq.ok n' e' p :=
 ⟨⟨h5,h.c.nl.mono hn,h.c.cb.mono he⟩,⟨h5,h.s.nl.mono hn,h.s.cb.mono he⟩,⟨h5,h.x.nl.mono hn,h.x.cb.mono he⟩,⟨h5,h.y.nl.mono hn,h.y.cb.mono he⟩⟩
theorem Pq.ok.lv{n m e:Nat}{p:Pq}(h:Pq.ok n e p)(hn:n=m):Pq.ok m e p:=hn▸h
theorem xi{r r':Nat}(h:r<=r'):∀j,eB r j<=eB r' j
 |0=>XD _
 |j+1=>by have:=xi h j;simp only[eB];omega
theorem Ew{r r':Nat}(h:r<=r'):∀j e,iB r j e<=iB r' j e
 |0,e=>XD _
 |j+1,e=>by
  have h1:=xi h j;have h2:=xi h (j+1);have h3:=Ew h j (4*e+3*eB r j+r+1);have h4:=vD r' j (e:=4*e+3*eB r j+r+1) (f:=4*e+3*eB r' j+r'+1) oz;simp only[iB];omega
theorem xz:Pq.ok 0 2 bb:=by
 have h:Nm 0 2 []:=⟨by omega,.inl rfl,⟨1,0,⟨by decide,fun q h=>by cases h⟩,by decide,by decide⟩⟩
 exact⟨h,h,h,h⟩
theorem Kp:Pq.ok 0 2 kc:=by
 have h:Nm 0 2 [1]:=⟨by omega,.inr ⟨0,XD _,rfl⟩,Cb.mono (Cb.int (z:=1) (e:=1) (by decide)) oz⟩
 exact⟨h,xz.c,xz.c,xz.c⟩
theorem Do:Tw [] 0:=⟨by decide,(fun j h=>by cases h),(fun j h=>by cases h),⟨1,1,by decide,(fun d h=>by cases h),by decide,by decide⟩,by omega⟩
theorem Jo(l:Li):QInv l 0 0 2 (eO l):=by
 refine⟨Do,XD _,fun p hp=>?_,by simp[eO]⟩;rcases List.mem_or_eq_of_mem_set hp with h |h
 ·rw[(List.mem_replicate.1 h).2];exact xz
 ·rw[h];exact Kp
theorem Pq.ok.nr{n e:Nat}{p:Pq}(h:Pq.ok n e p)(he:e<=lm n):∀x∈p.pl.l,NR x e:=by
 intro x hx;simp only[Pl.l,Pq.pl,X6,XV,or_false]at hx;rcases hx with rfl |rfl |rfl |rfl
 ·exact h.c.rt he
 ·exact h.s.rt he
 ·exact h.x.rt he
 ·exact h.y.rt he
theorem Pq.ok.num{n e:Nat}{p:Pq}(h:Pq.ok n e p):∀x∈p.pl.l,cG n x=0:=by
 intro x hx;simp only[Pl.l,Pq.pl,X6,XV,or_false]at hx;rcases hx with rfl |rfl |rfl |rfl
 ·exact o7 h.c.nl
 ·exact o7 h.s.nl
 ·exact o7 h.x.nl
 ·exact o7 h.y.nl
section
variable{l:Li}{j r E:Nat}{a:Aq}(Q:QInv l j r E a)
include Q
theorem QInv.chk:bC a.as.rs=0:=Q.tw.chk
theorem QInv.mem{p:Pl}(h:p∈a.as.bs):∃q∈a.bs,q.pl=p:=by have _:=Q;exact List.mem_map.1 h
theorem QInv.nr(hE:E<=50000000000){p:Pl}(h:p∈a.as.bs):∀x∈p.l,NR x E:=by
 obtain⟨q,hq,rfl⟩:=Q.mem h;exact(Q.bs q hq).nr (XW hE (kE _))
theorem QInv.ab(hl:aA l=0)(hE:E<=50000000000)(hr:r<=400000000):AB a.as:=by
 refine⟨Q.tw.tr.mono hr oz,fun p hp x hx=>(Q.nr hE hp x hx).mono hE,?_,?_⟩
 ·show(a.ts.map _).length<=8;rw[XA];have:=Q.tw.three;omega
 ·show(a.bs.map _).length<=30;rw[XA,Q.ln];have:=(cK hl).2.2.2.1;omega
theorem QInv.sma(hE:E<=50000000000){F:Nat}(hF:E<=F)(k:Int)(own:Bool):vS F l k a.as own :=
 fun b _ _ p hp x hx=>(Q.nr hE (Xx hp) x hx).mono hF
theorem QInv.nd(hl:aA l=0){g:Gr}(hg:GrOk l g){own:Bool}:∀b∈cR l g own,gf a.as b=0:=by
 intro b hb;unfold gf;split
 ·rfl
 ·have h1:=yP hl hg b hb;obtain ⟨p,hp⟩:=aw (l:=a.bs) (i:=b.toNat) (by rw [Q.ln]; omega);have e:a.as.bs[b.toNat]? = some p.pl:=by show (a.bs.map Pq.pl)[b.toNat]? = _; rw [XE,hp]; rfl
  rw[aq e];unfold bN;rw[Yk (by rw[Q.chk];simp)];have e2:a.as.rs.length=a.ts.length:=XA _;rw[e2];exact o5 (fun x hx=>(Q.bs p (Xx hp)).num x hx)
theorem QInv.dy0(hl:aA l=0)(hs:splitE l=0){k:Nat}{g:Gr}(hg:(splitG l)[k]?=some g)(own:Bool):fI l k a.as own=0:=by
 have hk:=(List.getElem?_eq_some_iff.1 hg).1;obtain⟨_,ho⟩:=oY hl (Xx hg);have hgA:iz l (k:Nat)=g:=aq hg;rw[qH hl,D4 hs oz (by show(a.bs.map _).length=_;rw[XA,Q.ln]) Q.chk,hgA];exact o5 (fun b hb=>Q.nd hl ho b (zx.1 hb))
end
structure WkC(l:Li)(xs:List Tn)(s g:Nat):Prop where
  hl:l.ok
  li:aA l=0
  sp:splitE l=0
  cs:Cs s l
  ln:xs.length=l.dv.length
  ok:∀x∈xs,x.t.ok/\x.err=0/\Qb 1000 x.t.q/\Cb g [de x.half x.t.q]/\Cb g [db x.half x.t.q]
theorem DQ{l:Li}{g:Gr}(h:DyK l g)(hk:g.kind=0):0<=g.driver/\g.driver<l.dv.length:=by
 cases h with
 | @drv b z d _ _ t d0 hd hb=>have:=(List.getElem?_eq_some_iff.1 hd).1;exact⟨d0,by show d<_;omega⟩
 |rrr=>exact absurd hk (by simp)
 |pr=>exact absurd hk (by simp)
 |rp=>exact absurd hk (by simp)
theorem zR:cZ.t.ok:=⟨(fun x h=>by cases h),(fun x h=>by cases h),XJ _,XJ _⟩
theorem FC:Qb 1000 cZ.t.q:=by
 have e:cZ.t.q=0:=by decide +kernel
 rw[e];exact Qb.zero.mono oz
section
variable{l:Li}{xs:List Tn}{s g:Nat}(W:WkC l xs s g){k:Nat}{gr:Gr}(hg:(splitG l)[k]?=some gr)
include W hg
theorem WkC.grp:DyK l gr/\GrOk l gr:=oY W.li (Xx hg)
theorem WkC.tn:(cz gr xs).t.ok/\Qb 1000 (cz gr xs).t.q/\(gr.kind=0->∃x∈xs,cz gr xs=x):=by
 unfold cz
 by_cases hk:gr.kind=0
 ·rw[Yl hk];have h:=DQ (W.grp hg).1 hk;obtain⟨x,hx⟩:=aw (l:=xs) (i:=gr.driver.toNat) (by rw[W.ln];omega);rw[aq hx];have hm:=Xx hx;exact⟨(W.ok x hm).1,(W.ok x hm).2.2.1,fun _=>⟨x,hm,rfl⟩⟩
 ·rw[Yk hk];exact⟨zR,FC,fun h=>absurd h hk⟩
variable{j r E:Nat}{a:Aq}(Q:QInv l j r E a)
include Q
theorem QInv.dyOk{F:Nat}(hE:E<=50000000000)(hF:E<=F):DyOk F l k a.as false k gr:=by
 obtain⟨i,g',h⟩:=yo (Q.sma hE hF k false) (Q.dy0 W.li W.sp hg false);have e:i=k:=by have:=h.hk;omega
 subst e;have:=h.hg;rw[hg]at this;cases this;exact h
theorem QInv.dyS(hr:r<=64990)(hj:j<=1):DyS a.as:=by have _:=W;have _:=hg;exact⟨Q.tw.tr.mono hr oz,fun _=>by rw[a.llq];exact XW Q.lv hj⟩
theorem QInv.dyW(hE:E<=50000000000)(hr:r<=400000000):DyW l a.as:=by have _:=hg;exact⟨W.hl,W.li,Q.ab W.li hE hr,Q.chk⟩
theorem QInv.twl:Tw (Lw.llq a.as.rs) r:=by have _:=W;have _:=hg;rw[a.llq];exact Q.tw
theorem QInv.drv{n y:Nat}(ok:eI s g (n+1) y j r E=true)(hk:gr.kind=0):∀sv∈eV l a.as gr (cz gr xs),QInv l j r (nE s g j r E) (a.nxt gr sv):=by
 obtain⟨⟨hE,hr,hj⟩,_⟩:=r5 ok;have D:=QInv.dyW W hg Q oz hr;have O:=QInv.dyOk W hg Q (F:=E) oz (XD _);obtain⟨i,z0,d,j0,e,hj0,p0⟩:=BP O hk;obtain⟨_,_,hx⟩:=W.tn hg;obtain⟨x,hx,ex⟩:=hx hk;obtain⟨_,he,_,hc,hs⟩:=W.ok x hx;have hlen:(Lw.llq a.as.rs).length=a.ts.length:=by rw[a.llq]
 have tw:=QInv.twl W hg Q;have hq0:=oQ W.hl W.li W.cs hj0 p0.or;have hK:eB r (Lw.llq a.as.rs).length<=eB r j:=ig r (by rw[hlen];exact Q.lv);obtain⟨o1,o2⟩:=si W.hl W.li W.cs D.al D.hc tw hK hj0 p0;rw[ex];unfold eV;rw[Yl hk,e];show ∀sv∈j9 l a.as i (l.jo.getD z0.toNat default) x,_;rw[aq hj0];unfold j9;rw[Yk oz];have hp:=O1 (ts:=Lw.llq a.as.rs) (p:=ak l j0 i) (o:=aG l a.as j0 i) hc hs hq0 tw.five o1 o2
 have hp2:Pq.ok a.ts.length (nE s g j r E) (lF l a.as i j0 x):=by
  have:=yW (a:=0) (b:=0) hp (e:=nE s g j r E) (by unfold nE lr;omega) (by unfold nE lr;omega);exact Pq.ok.lv this hlen
 refine il ⟨?_,?_,?_,?_⟩
 ·exact tw
 ·show(Lw.llq a.as.rs).length<=j;rw[hlen];exact Q.lv
 ·intro p hp3;show Pq.ok (Lw.llq a.as.rs).length _ p;rw[hlen];rcases Dl hp3 with h |h
  ·exact(Q.bs p h).up (XD _) Q.tw.five (by unfold nE lr;omega)
  ·rw[List.mem_singleton.1 h];exact hp2
 ·exact(vZ _ _ _).trans Q.ln
theorem QInv.dy{n y:Nat}(ok:eI s g (n+1) (y+1) j r E=true)(hk:gr.kind≠0):∀sv∈eV l a.as gr (cz gr xs),QInv l (j+1) (r+kJ s j r E) (r7 s j r E) (a.nxt gr sv):=by
 obtain⟨⟨hj,hE,hr,hX,hJ⟩,_⟩:=tC ok;have D:DyR l a.as:=⟨QInv.dyW W hg Q oz oz,QInv.dyS W hg Q hr hj⟩
 have O:=QInv.dyOk W hg Q (F:=E) oz (XD _);have hlen:(Lw.llq a.as.rs).length=a.ts.length:=by rw[a.llq]
 have hlv:(Lw.llq a.as.rs).length<=j:=by rw[hlen];exact Q.lv
 have tw:=QInv.twl W hg Q
 have Z:Szs (Lw.llq a.as.rs).length r (3*E+2*s+2*eB r j+10) (8*s+5) (kJ s j r E) (eB r j) (eB (r+kJ s j r E) (j+1)) (FK s j r E) (wg s j r E):=by
  refine⟨by omega,ig r hlv,?_,hX,ig _ oz,?_,?_,hJ,?_,?_⟩
  ·unfold kJ lr;omega
  ·exact zF r _ hlv
  ·exact zF _ _ hlv
  ·exact XW (ig r oz) (xi oz _)
  ·exact Ew oz _ _
 have hn:(Lw.llq a.as.rs).length<=1:=by omega
 have key:∀sv∈eV l a.as gr (cz gr xs),Xz (Lw.llq a.as.rs) r (kJ s j r E) sv.ts/\∀p∈sv.ps,Pq.ok sv.ts.length (r7 s j r E) p:=by
  unfold eV;rw[Yk hk]
  by_cases hk1:gr.kind=1
  ·obtain⟨i,k2,z0,z1,z2,j0,j1,j2,P⟩:=O.rrr hk1;obtain⟨e0,e1,e2,b0,b1,_⟩:=P.at;rw[Yl hk1,e0,e1,e2,b0,b1];exact KL D hn W.cs tw Z (XD _) P
  ·rw[Yk hk1]
   by_cases hk2:gr.kind=2
   ·obtain⟨i,z0,z1,j0,j,P,ha,hb⟩:=O.pr hk2;obtain⟨e0,e1,b0,_⟩:=P.at;rw[Yl hk2,e0,e1,b0];exact Wp D hn W.cs tw Z (XD _) P ha hb
   ·obtain⟨i,z0,z1,j0,j,P,_,hj,hb⟩:=O.rp hk hk1 hk2;obtain⟨e0,e1,b0,hk3⟩:=P.at;rw[Yk hk2,e0,e1,b0];exact Vf D hn W.cs tw Z (XD _) P hj hb
 intro sv hsv;obtain⟨hx,hp⟩:=key sv hsv;have h5:=hx.tw.five;have hup:=hx.up;have hln:=hx.ln;rw[hlen]at hup hln;refine⟨hx.tw,?_,?_,?_⟩
 ·show sv.ts.length<=j+1;have:=Q.lv;omega
 ·intro p hp3;rcases Dl hp3 with h |h
  ·exact(Q.bs p h).up hup h5 (by unfold r7 oZ wZ lr;omega)
  ·exact hp p h
 ·exact(vZ _ _ _).trans Q.ln
end
def mT(l:Li)(a:As)(g:Gr)(x:Tn):Nat:=(jz l a g x).2
def fp(F:Int->Bool)(sg:Bool)(f:Sv->List Aq×Nat):List Sv->List Aq×Nat
  |[]=>([],0)
  |s::r=>if F s.mode=false then fp F sg f r else if(f s).2≠0 then f s else if sg=true then f s else((f s).1++(fp F sg f r).1,(fp F sg f r).2)
def gh(F:Nat->Int->Bool)(sg:Bool)(l:Li)(xs:List Tn)(gs:List Gr):Nat->Aq->List Aq×Nat
  |0,a=>([a],0)
  |n+1,a=>if mT l a.as (gs.getD a.ms.length default) (cz (gs.getD a.ms.length default) xs)≠0 then([],mT l a.as (gs.getD a.ms.length default) (cz (gs.getD a.ms.length default) xs))
    else fp (F a.ms.length) sg (fun s=>gh F sg l xs gs n (a.nxt (gs.getD a.ms.length default) s)) (eV l a.as (gs.getD a.ms.length default) (cz (gs.getD a.ms.length default) xs))
theorem QJ{l:Li}{xs:List Tn}{s g:Nat}(W:WkC l xs s g){k:Nat}{gr:Gr}(hg:(splitG l)[k]?=some gr){j r E:Nat}{a:Aq}(Q:QInv l j r E a){n y:Nat}(ok:eI s g (n+1) y j r E=true)(hy:gr.kind≠0->0<y) :
  SolP (eV l a.as gr (cz gr xs)) gr.kind a.ts.length gr.bo.length:=by
 obtain⟨⟨hE,hr,hj⟩,_⟩:=r5 ok;have D:=QInv.dyW W hg Q oz hr;have h3:(Lw.llq a.as.rs).length<=2:=by rw[a.llq];have:=Q.lv;omega
 have hlen:(Lw.llq a.as.rs).length=a.ts.length:=by rw[a.llq]
 rw[<- hlen]
 by_cases hk:gr.kind=0
 ·exact E9 hE D h3 (QInv.dyOk W hg Q (F:=E) oz (XD _)) (fun h=>absurd hk h) (W.tn hg).2.1
 ·have hy:=hy hk;obtain ⟨y',rfl⟩:∃ y',y = y' + 1:=⟨y - 1,by omega⟩
  obtain⟨⟨hj,hE,hr,hX,hJ⟩,_⟩:=tC ok;exact E9 oz D h3 (QInv.dyOk W hg Q (F:=3900000) oz hE) (fun _=>⟨rfl,QInv.dyS W hg Q hr hj⟩) (W.tn hg).2.1
open Lean.Grind (CommRing)
theorem pg{ts:LL}(hp:eJ ts){X:Et ts}(h:0<am X):eJ (aR ts (sX X)):=by
 intro j hj;rw[dJ]at hj;rw[vV oz];rcases XH j ts.length with h9 |h9
 ·rw[v6 h9];exact hp j h9
 ·have : j = ts.length := by omega
  subst this
  have e1:ax (aR ts (sX X)) ts.length=X:=by
   show ae ts.length ((aR ts (sX X)).getD ts.length [])=_;rw[sk,qM];exact bg _ _
  rw[e1];exact Int.le_of_lt h
def co(T:LL)(p:Pq)(m:Rat×Rat):P2 T:=(dE T p.c*qE m.1-dE T p.s*qE m.2+dE T p.x,dE T p.s*qE m.1+dE T p.c*qE m.2+dE T p.y)
def CH(T:LL)(p:Pq):Prop:=am (dE T p.c*dE T p.c+dE T p.s*dE T p.s-1)=0
def aV(l:Li)(T:LL)(bs:List Pq)(b pt:Int):P2 T:=co T (bs.getD b.toNat bb) (aS l b pt)
def JH(l:Li)(T:LL)(bs:List Pq)(j:Jt):Prop :=
  if j.kind=0 then am ((aV l T bs j.a j.point).1-(aV l T bs j.b j.on).1)=0/\am ((aV l T bs j.a j.point).2-(aV l T bs j.b j.on).2)=0
  else am (gN (aQ (aV l T bs j.b j.to) (aV l T bs j.b j.on)) (aQ (aV l T bs j.a j.point) (aV l T bs j.b j.on)))=0
theorem En{ts:LL}{q:Rat}(h:q≠0):(iE (qE q)*qE q:Et ts)=1:=by
 have e:(iE (qE q):Et ts)=qE (1/q):=xl (ax ts) ts.length q;rw[e,<- mc,show 1/q*q=((1:Nat):Rat) by rw[show(((1:Nat):Rat))=1 from rfl];grind];rfl
section
variable{T:LL}{u p c:Rat×Rat}{w o:P2 T}
theorem vO:dE T (gd u w p o).c=dt u w:=bg _ _
theorem uz:dE T (gd u w p o).s=dc u w:=bg _ _
theorem Ny:dE T (gd u w p o).x=qd u w p o:=bg _ _
theorem WX:dE T (gd u w p o).y=qi u w p o:=bg _ _
theorem nJ(m:Rat×Rat):co T (gd u w p o) m=(o.1+(dt u w*qE (m.1-p.1)-dc u w*qE (m.2-p.2)),o.2+(dc u w*qE (m.1-p.1)+dt u w*qE (m.2-p.2))):=by
 unfold co;rw[vO,uz,Ny,WX,mz,mz];unfold qd qi;refine Prod.ext ?_ ?_
 ·dsimp only;grind
 ·dsimp only;grind
theorem tV:co T (gd u w p o) p=o:=by
 rw[nJ,show p.1-p.1=0 by grind,show p.2-p.2=0 by grind,yu];refine Prod.ext ?_ ?_
 ·dsimp only;grind
 ·dsimp only;grind
theorem A5(h:bY u u≠0):(dt u w*qE u.1-dc u w*qE u.2=w.1/\dc u w*qE u.1+dt u w*qE u.2=w.2):=by
 have hn:(jY u:Et T)=qE u.1*qE u.1+qE u.2*qE u.2:=by
  show qE (u.1*u.1+u.2*u.2)=_;rw[ph,mc,mc]
 exact(EY hn (En h) rfl rfl).1
theorem sF(h:bY (cq c p) (cq c p)≠0):co T (gd (cq c p) w p o) c=(o.1+w.1,o.2+w.2):=by
 rw[nJ];have g:=A5 (w:=w) h;have e1:(qE (c.1-p.1):Et T)=qE (cq c p).1:=rfl;have e2:(qE (c.2-p.2):Et T)=qE (cq c p).2:=rfl;rw[e1,e2,g.1,g.2]
theorem vL(hp:eJ T)(h:bY u u≠0)(hw:am (w.1*w.1+w.2*w.2-qE (bY u u))=0):CH T (gd u w p o):=by
 unfold CH;rw[vO,uz]
 have hn:(jY u:Et T)=qE u.1*qE u.1+qE u.2*qE u.2:=by
  show qE (u.1*u.1+u.2*u.2)=_;rw[ph,mc,mc]
 have hi:(iE (jY u)*jY u:Et T)=1:=En h;have e:=congrArg (ai hp) hn;have ei:=congrArg (ai hp) hi;have ew:ai hp w.1*ai hp w.1+ai hp w.2*ai hp w.2=ai hp (jY u):=(kK hp (x:=w.1*w.1+w.2*w.2) (y:=jY u)).2 hw;have g:=(EY (R:=Zq hp) (n:=ai hp (jY u)) (i:=ai hp (iE (jY u))) (u1:=ai hp (qE u.1)) (u2:=ai hp (qE u.2)) (c:=ai hp (dt u w)) (s:=ai hp (dc u w)) (w1:=ai hp w.1) (w2:=ai hp w.2) e ei rfl (by unfold dc;rw[bM,bR,bM,bM])).2 ew;refine(kK hp (x:=dt u w*dt u w+dc u w*dc u w) (y:=1)).1 ?_;exact g
end
def aK(a:As):List Pq:=a.bs.map fun b=>⟨lq b.c,lq b.s,lq b.x,lq b.y⟩
theorem mW(q:Aq):aK q.as=q.bs:=by
 unfold aK Aq.as;rw[map_map]
 conv=>rhs;rw[<- map_id q.bs]
 refine List.map_congr_left fun p _=>?_
 show(⟨lq (p.c.map rt),lq (p.s.map rt),lq (p.x.map rt),lq (p.y.map rt)⟩:Pq)=p;rw[eA,eA,eA,eA]
theorem iM(l:Li)(a:As)(b pt:Int):bh l a b pt=aV l (llq a.rs) (aK a) b pt:=by
 have e:(aK a).getD b.toNat bb=⟨lq (a.bs.getD b.toNat default).c,lq (a.bs.getD b.toNat default).s,lq (a.bs.getD b.toNat default).x,lq (a.bs.getD b.toNat default).y⟩:=by
  unfold aK;rw[Xy,Xy,XE];cases a.bs[b.toNat]? <;> rfl
 unfold aV;rw[e];rfl
def Nq(n:Nat)(p:Pq):Prop:=p.c.length<=2^n/\p.s.length<=2^n/\p.x.length<=2^n/\p.y.length<=2^n
section
variable{ts T:LL}(L:Lf ts T)
include L
theorem Lf.add(x y:Et ts):ai L.pos (ay T (x+y))=ai L.pos (ay T x)+ai L.pos (ay T y):=L.hm.add x y
theorem Lf.mul(x y:Et ts):ai L.pos (ay T (x*y))=ai L.pos (ay T x)*ai L.pos (ay T y):=L.hm.mul x y
theorem Lf.sub(x y:Et ts):ai L.pos (ay T (x-y))=ai L.pos (ay T x)-ai L.pos (ay T y):=L.hm.sub x y
theorem Lf.one:ai L.pos (ay T (1:Et ts))=1:=L.hm.one
theorem Lf.at{p:Pq}(hp:Nq ts.length p)(m:Rat×Rat):ai L.pos (co T p m).1=ai L.pos (ay T (co ts p m).1)/\ai L.pos (co T p m).2=ai L.pos (ay T (co ts p m).2):=by
 obtain⟨h1,h2,h3,h4⟩:=hp;unfold co;dsimp only;constructor
 ·rw[L.add,L.sub,L.mul,L.mul,L.low _ h1,L.low _ h2,L.low _ h3,L.q,L.q,fZ,bR,bM,bM]
 ·rw[L.add,L.add,L.mul,L.mul,L.low _ h1,L.low _ h2,L.low _ h4,L.q,L.q,fZ,fZ,bM,bM]
theorem Lf.zero(x:Et ts):am (ay T x)=0↔am x=0:=(fv L.pos).symm.trans (L.hm.zero x)
theorem Lf.ch{p:Pq}(hp:Nq ts.length p)(h:CH ts p):CH T p:=by
 obtain⟨h1,h2,h3,h4⟩:=hp;have e:=(L.zero _).2 h;have e1:=(fv L.pos).2 e;refine(fv L.pos).1 ?_;rw[L.sub,L.add,L.mul,L.mul,L.low _ h1,L.low _ h2,L.one]at e1;rw[bR,fZ,bM,bM];exact e1
end
end Go.Lw
namespace Go.Lw
open Lean.Grind (CommRing)
def cV(bs bs':List Pq)(n:Nat)(b:Int):Prop:=bs'.getD b.toNat bb=bs.getD b.toNat bb/\Nq n (bs.getD b.toNat bb)
section
variable{ts T:LL}(L:Lf ts T)
include L
theorem Lf.pt(l:Li){bs bs':List Pq}{b:Int}(h:cV bs bs' ts.length b)(pt:Int) :
  ai L.pos (aV l T bs' b pt).1=ai L.pos (ay T (aV l ts bs b pt).1)/\ai L.pos (aV l T bs' b pt).2=ai L.pos (ay T (aV l ts bs b pt).2):=by
 unfold aV;rw[h.1];exact L.at h.2 _
end
section
variable{T:LL}(hp:eJ T)
include hp
theorem wi{l:Li}{bs:List Pq}{j:Jt}(hk:j.kind=0)(h1:ai hp (aV l T bs j.a j.point).1=ai hp (aV l T bs j.b j.on).1)(h2:ai hp (aV l T bs j.a j.point).2=ai hp (aV l T bs j.b j.on).2):JH l T bs j:=by
 unfold JH;rw[Yl hk];exact⟨(kK hp).1 h1,(kK hp).1 h2⟩
theorem Cg{l:Li}{bs:List Pq}{j:Jt}(hk:j.kind≠0)
  (h:(ai hp (aV l T bs j.b j.to).1-ai hp (aV l T bs j.b j.on).1)*(ai hp (aV l T bs j.a j.point).2-ai hp (aV l T bs j.b j.on).2)-(ai hp (aV l T bs j.b j.to).2-ai hp (aV l T bs j.b j.on).2)*(ai hp (aV l T bs j.a j.point).1-ai hp (aV l T bs j.b j.on).1)=0):JH l T bs j:=by
 unfold JH;rw[Yk hk];refine(fv hp).1 ?_;unfold gN crsE aQ;dsimp only;rw[bR,bM,bM,bR,bR,bR,bR];exact h
end
section
variable{ts T:LL}(L:Lf ts T)
include L
theorem Lf.jh{l:Li}{bs bs':List Pq}{j:Jt}(ha:cV bs bs' ts.length j.a)(hb:cV bs bs' ts.length j.b)(h:JH l ts bs j):JH l T bs' j:=by
 have a:=L.pt l ha;have b:=L.pt l hb
 by_cases hk:j.kind=0
 ·unfold JH at h;rw[Yl hk]at h;have e1:=(fv L.pos).2 ((L.zero _).2 h.1);have e2:=(fv L.pos).2 ((L.zero _).2 h.2);rw[L.sub]at e1 e2;refine wi L.pos hk ?_ ?_
  ·rw[(a _).1,(b _).1];grind
  ·rw[(a _).2,(b _).2];grind
 ·unfold JH at h;rw[Yk hk]at h;have e1:=(fv L.pos).2 ((L.zero _).2 h);unfold gN crsE aQ at e1;dsimp only at e1;simp only[L.sub,L.mul]at e1;refine Cg L.pos hk ?_;rw[(a _).1,(a _).2,(b _).1,(b _).2,(b _).1,(b _).2];exact e1
end
section
variable{l:Li}{a:As}{T:LL}(L:Lf (llq a.rs) T)
include L
theorem Lf.pin{bs':List Pq}{j:Jt}{i:Int}(hk:j.kind=0)(tie:(j.a=i/\cV (aK a) bs' (llq a.rs).length j.b)\/(j.a≠i/\j.b=i/\cV (aK a) bs' (llq a.rs).length j.a))
  (h:co T (bs'.getD i.toNat bb) (ak l j i)=(ay T (aG l a j i).1,ay T (aG l a j i).2)):JH l T bs' j:=by
 have h1:=congrArg Prod.fst h;have h2:=congrArg Prod.snd h;dsimp only at h1 h2;rcases tie with⟨e,hs⟩ |⟨e,e2,hs⟩
 ·have b:=L.pt l hs j.on;unfold ak aG at h1 h2;simp only[Yl e]at h1 h2;rw[iM]at h1 h2;refine wi L.pos hk ?_ ?_
  ·rw[b.1];unfold aV;rw[e];exact congrArg (ai L.pos) h1
  ·rw[b.2];unfold aV;rw[e];exact congrArg (ai L.pos) h2
 ·have b:=L.pt l hs j.point;unfold ak aG at h1 h2;simp only[Yk e]at h1 h2;rw[iM]at h1 h2;refine wi L.pos hk ?_ ?_
  ·rw[b.1]
   conv=>rhs;unfold aV
   rw[e2];exact(congrArg (ai L.pos) h1).symm
  ·rw[b.2]
   conv=>rhs;unfold aV
   rw[e2];exact(congrArg (ai L.pos) h2).symm
end
theorem ki{bs:List Pq}{i k:Int}{p:Pq}(hi:0<=i)(hk:0<=k)(h:k≠i):(bs.set i.toNat p).getD k.toNat bb=bs.getD k.toNat bb:=by
 rw[Xy,Xy,List.getElem?_set_ne oz]
theorem mn{bs:List Pq}{i:Nat}{p:Pq}(h:i<bs.length):(bs.set i p).getD i bb=p:=by
 rw[Xy,List.getElem?_set_self h];rfl
theorem Sp(n:Nat):Nq n bb:=⟨XJ _,XJ _,XJ _,XJ _⟩
theorem z9{bs:List Pq}{n:Nat}(h:∀p∈bs,Nq n p)(i:Nat):Nq n (bs.getD i bb):=by
 rw[Xy];cases e:bs[i]? with
 |none=>exact Sp n
 |some p=>exact h p (Xx e)
structure GrpH(l:Li)(a:As)(g:Gr)(s:Sv):Prop where
  lf:Lf (llq a.rs) s.ts
  js:∀z∈g.jo,JH l s.ts (a7 (aK a) g.bo s.ps) (l.jo.getD z.toNat default)
  cs:∀b∈g.bo,CH s.ts ((a7 (aK a) g.bo s.ps).getD b.toNat bb)
theorem NK{R:Type}[CommRing R]{C S a1 a2 b1 b2 x1 x2 P1 P2 o1 o2:R}(hcs:C*C+S*S=1)(g:x1*(P2-o2)-x2*(P1-o1)=(a1-b1)*b2-(a2-b2)*b1)
  (y1:C*(a1-b1)-S*(a2-b2)=x1) (y2:S*(a1-b1)+C*(a2-b2)=x2) :
  (o1+(C*a1-S*a2)-(o1+(C*b1-S*b2)))*(P2-(o2+(S*b1+C*b2)))-(o2+(S*a1+C*a2)-(o2+(S*b1+C*b2)))*(P1-(o1+(C*b1-S*b2)))=0:=by
 have e1:o1+(C*a1-S*a2)-(o1+(C*b1-S*b2))=x1:=by rw[<- y1];grind
 have e2:o2+(S*a1+C*a2)-(o2+(S*b1+C*b2))=x2:=by rw[<- y2];grind
 rw[e1,e2];have e3:x1*(P2-(o2+(S*b1+C*b2)))-x2*(P1-(o1+(C*b1-S*b2)))=(x1*(P2-o2)-x2*(P1-o1))-(x1*(S*b1+C*b2)-x2*(C*b1-S*b2)):=by clear hcs g y1 y2 e1 e2;grind
 have e4:x1*(S*b1+C*b2)-x2*(C*b1-S*b2)=((a1-b1)*b2-(a2-b2)*b1)*(C*C+S*S):=by rw[<- y1,<- y2];clear hcs g y1 y2 e1 e2 e3;grind
 rw[e3,e4,g,hcs];grind
section
variable{l:Li}{a:As}{r:Nat}(tw:Tw (llq a.rs) r)(hN:∀p∈aK a,Nq (llq a.rs).length p)
include tw hN
theorem oh{bs':List Pq}{b:Int}(h:bs'.getD b.toNat bb=(aK a).getD b.toNat bb):cV (aK a) bs' (llq a.rs).length b:=by
 have:=tw;exact⟨h,z9 hN _⟩
theorem Ic{u:Rat×Rat}(h:bY u u≠0):0<am (qE (bY u u):Et (llq a.rs)):=by
 have:=tw;have:=hN;have h0:0<=bY u u:=Rat.add_nonneg (oB u.1) (oB u.2)
 have h1:0<bY u u:=by
  rcases Rat.le_iff_lt_or_eq.1 h0 with g |g
  ·exact g
  ·exact absurd g.symm h
 rw[E3,uN h1];decide
theorem M8{i k z0 z1 z2:Int}{j0 j1 j2:Jt}(ne:i≠k)(t0:TieO l 0 [i,k] z0 i j0)(t1:TieO l 0 [i,k] z1 k j1)(h2:l.jo[z2.toNat]?=some j2)(kd:j2.kind=0)
  (tie:(j2.a=i/\j2.b=k)\/(j2.b=i/\j2.a=k)) (hi:0<=i) (hk:0<=k) (hil:i.toNat<(aK a).length) (hkl:k.toNat<(aK a).length) (hn:∀j∈l.jo,0<=j.a/\0<=j.b)
  {s:Sv} (hs:s∈jb l a i k j0 j1 j2):GrpH l a ⟨1,[i,k],[z0,z1,z2],0⟩ s:=by
 unfold jb at hs;split at hs
 ·cases hs
 ·rename_i hz;obtain⟨w1,w2⟩:=rS (Bool.eq_false_iff.2 hz);split at hs
  ·cases hs
  ·rename_i hc;have hc:=Decidable.not_not.1 hc;have geo:=Pe tw (fun X hX=>pg tw.pos hX) hc (Ic tw hN w1);unfold jq at hs;obtain ⟨m,hm,rfl⟩:=List.mem_map.1 hs;obtain ⟨x,hx⟩:=aw (List.mem_range.1 hm);have G:=geo x (Xx hx);unfold jp;rw [aq hx];have e0:TieO l 0 [i,k] z0 i j0:=t0;obtain ⟨n0,n1⟩:=hn j0 (Xx t0.hj);obtain ⟨n2,n3⟩:=hn j1 (Xx t1.hj);have hne:i.toNat ≠ k.toNat:=by omega
   generalize hM:dY (aG l a j0 i) (aG l a j1 k) (qE (bF (ak l j2 i) (ak l j0 i))) (qE (bF (ak l j2 k) (ak l j1 k)))=M at *;obtain⟨B0,hB0⟩:∃B0,B0=kF M.ts x ⟨ak l j0 i,P2.l (aG l a j0 i),ak l j2 i⟩:=⟨_,rfl⟩
   obtain⟨B1,hB1⟩:∃B1,B1=kF M.ts x ⟨ak l j1 k,P2.l (aG l a j1 k),ak l j2 k⟩:=⟨_,rfl⟩
   have hbs:a7 (aK a) [i,k] [B0,B1]=((aK a).set i.toNat B0).set k.toNat B1:=rfl;have g0:(a7 (aK a) [i,k] [B0,B1]).getD i.toNat bb=B0:=by rw[hbs,ki hk hi ne,mn hil]
   have g1:(a7 (aK a) [i,k] [B0,B1]).getD k.toNat bb=B1:=by rw[hbs,mn (by rw[Yj];exact hkl)]
   have gn:∀b:Int,0<=b->b∉[i,k]->cV (aK a) (a7 (aK a) [i,k] [B0,B1]) (llq a.rs).length b:=fun b h0 hb=>oh tw hN (by
    rw[hbs,ki hk h0 (fun e=>hb (by simp[e])),ki hi h0 (fun e=>hb (by simp[e]))])
   have p0:co M.ts B0 (ak l j0 i)=(ay M.ts (aG l a j0 i).1,ay M.ts (aG l a j0 i).2):=by rw[hB0];exact tV
   have p1:co M.ts B1 (ak l j1 k)=(ay M.ts (aG l a j1 k).1,ay M.ts (aG l a j1 k).2):=by rw[hB1];exact tV
   have q0:co M.ts B0 (ak l j2 i)=(dE M.ts x.1,dE M.ts x.2):=by
    rw[hB0];refine(sF w1).trans ?_;unfold ky jy;refine Prod.ext ?_ ?_
    ·dsimp only;grind
    ·dsimp only;grind
   have q1:co M.ts B1 (ak l j2 k)=(dE M.ts x.1,dE M.ts x.2):=by
    rw[hB1];refine(sF w2).trans ?_;unfold ky jy;refine Prod.ext ?_ ?_
    ·dsimp only;grind
    ·dsimp only;grind
   refine⟨G.lf,?_,?_⟩
   ·intro z hz;show JH l M.ts (a7 (aK a) [i,k] [_,_]) _;rw[<- hB0,<- hB1];rcases List.mem_cons.1 hz with rfl |hz
    ·rw [aq t0.hj];refine G.lf.pin t0.kd (i:=i) ?_ (by rw [g0]; exact p0);rcases t0.tie with ⟨e,hb⟩ | ⟨e,hb⟩
     ·exact .inl ⟨e,gn _ n1 hb⟩
     ·exact .inr ⟨fun e2=>hb (by simp[e2]),e,gn _ n0 hb⟩
    ·rcases List.mem_cons.1 hz with rfl |hz
     ·rw [aq t1.hj];refine G.lf.pin t1.kd (i:=k) ?_ (by rw [g1]; exact p1);rcases t1.tie with ⟨e,hb⟩ | ⟨e,hb⟩
      ·exact .inl ⟨e,gn _ n3 hb⟩
      ·exact .inr ⟨fun e2=>hb (by simp[e2]),e,gn _ n2 hb⟩
     ·rw[List.mem_singleton.1 hz,aq h2]
      have key:aV l M.ts (a7 (aK a) [i,k] [B0,B1]) j2.a j2.point=aV l M.ts (a7 (aK a) [i,k] [B0,B1]) j2.b j2.on:=by
       unfold aV;rcases tie with⟨e,e'⟩ |⟨e,e'⟩
       ·have c0 : ak l j2 i = aS l i j2.point := by unfold ak; rw [Yl e]
        have c1:ak l j2 k=aS l k j2.on:=by unfold ak;rw[Yk oz]
        rw[e,e',g0,g1,<- c0,<- c1,q0,q1]
       ·have c0 : ak l j2 k = aS l k j2.point := by unfold ak; rw [Yl e']
        have c1:ak l j2 i=aS l i j2.on:=by unfold ak;rw[Yk oz]
        rw[e,e',g0,g1,<- c0,<- c1,q0,q1]
      exact wi G.lf.pos kd (by rw[key]) (by rw[key])
   ·intro b hb;show CH M.ts ((a7 (aK a) [i,k] [_,_]).getD b.toNat bb);rw[<- hB0,<- hB1];rcases List.mem_cons.1 hb with rfl |hb
    ·rw[g0,hB0];refine vL G.lf.pos w1 ?_;have:=G.c1;rw[G.lf.q]at this;exact this
    ·rw[List.mem_singleton.1 hb,g1,hB1];refine vL G.lf.pos w2 ?_;have:=G.c2;rw[G.lf.q]at this;exact this
theorem Qf{i z0 z1:Int}{j0 j:Jt}(t0:TieO l 0 [i] z0 i j0)(t1:TieO l 1 [i] z1 i j)(ha:j.a=i)(hi:0<=i)(hil:i.toNat<(aK a).length)(hn:∀j∈l.jo,0<=j.a/\0<=j.b)
  {s:Sv} (hs:s∈jk l a i j0 j):GrpH l a ⟨2,[i],[z0,z1],0⟩ s:=by
 unfold jk at hs;split at hs
 ·cases hs
 ·rename_i hz;have w1:=r4 (Bool.eq_false_iff.2 hz);split at hs
  ·cases hs
  ·rename_i hc;have hc:=Decidable.not_not.1 hc;have geo:=VS tw (fun X hX=>pg tw.pos hX) (c:=aG l a j0 i) (z:=qE (bF (aS l i j.point) (ak l j0 i))) hc;unfold jq at hs;obtain⟨m,hm,rfl⟩:=List.mem_map.1 hs;obtain⟨x,hx⟩:=aw (List.mem_range.1 hm);have G:=geo x (Xx hx);have L:=G.lf;unfold jp;rw[aq hx];obtain⟨n0,n1⟩:=hn j0 (Xx t0.hj);obtain⟨n2,n3⟩:=hn j (Xx t1.hj);generalize hM:dZ (bh l a j.b j.on) (bh l a j.b j.to) (aG l a j0 i) (qE (bF (aS l i j.point) (ak l j0 i)))=M at *;obtain⟨B0,hB0⟩:∃B0,B0=kF M.ts x ⟨ak l j0 i,P2.l (aG l a j0 i),aS l i j.point⟩:=⟨_,rfl⟩
   have hbs:a7 (aK a) [i] [B0]=(aK a).set i.toNat B0:=rfl;have g0:(a7 (aK a) [i] [B0]).getD i.toNat bb=B0:=by rw[hbs,mn hil]
   have gn:∀b:Int,0<=b->b∉[i]->cV (aK a) (a7 (aK a) [i] [B0]) (llq a.rs).length b:=fun b h0 hb=>oh tw hN (by
    rw[hbs,ki hi h0 (fun e=>hb (by simp[e]))])
   have p0:co M.ts B0 (ak l j0 i)=(ay M.ts (aG l a j0 i).1,ay M.ts (aG l a j0 i).2):=by rw[hB0];exact tV
   have q0:co M.ts B0 (aS l i j.point)=(dE M.ts x.1,dE M.ts x.2):=by
    rw[hB0];refine(sF w1).trans ?_;unfold ky jy;refine Prod.ext ?_ ?_
    ·dsimp only;grind
    ·dsimp only;grind
   have hjb:cV (aK a) (a7 (aK a) [i] [B0]) (llq a.rs).length j.b:=by
    rcases t1.tie with⟨e,hb⟩ |⟨e,hb⟩
    ·exact gn _ n3 hb
    ·exact absurd (by simp[ha]) hb
   refine⟨G.lf,?_,?_⟩
   ·intro z hz;show JH l M.ts (a7 (aK a) [i] [_]) _;rw[<- hB0];rcases List.mem_cons.1 hz with rfl |hz
    ·rw [aq t0.hj];refine L.pin t0.kd (i:=i) ?_ (by rw [g0]; exact p0);rcases t0.tie with ⟨e,hb⟩ | ⟨e,hb⟩
     ·exact .inl ⟨e,gn _ n1 hb⟩
     ·exact .inr ⟨fun e2=>hb (by simp[e2]),e,gn _ n0 hb⟩
    ·rw [List.mem_singleton.1 hz, aq t1.hj];refine Cg L.pos (by rw [t1.kd]; decide) ?_;have ec:=(fv L.pos).2 G.l;rw [bR,bM,bM,bR,bR,bR,bR,iM,iM] at ec;have on:=L.pt l hjb j.on;have to:=L.pt l hjb j.to
     have pp:aV l M.ts (a7 (aK a) [i] [B0]) j.a j.point=(dE M.ts x.1,dE M.ts x.2):=by
      unfold aV;rw[ha,g0,q0]
     rw[pp,on.1,on.2,to.1,to.2];exact ec
   ·intro b hb;show CH M.ts ((a7 (aK a) [i] [_]).getD b.toNat bb);rw[<- hB0,List.mem_singleton.1 hb,g0,hB0];refine vL L.pos w1 ?_;have:=G.c;rw[L.q]at this;exact this
theorem AG{i z0 z1:Int}{j0 j:Jt}(t0:TieO l 0 [i] z0 i j0)(t1:TieO l 1 [i] z1 i j)(ha:j.a≠i)(hi:0<=i)(hil:i.toNat<(aK a).length)(hn:∀j∈l.jo,0<=j.a/\0<=j.b)(hv:bY (cr l i j) (cr l i j)≠0)
  (hd:am (cc l a i j0 j)≠0) {T:LL} (L:Lf (llq a.rs) T) {q:List Rat} (hq:ai L.pos (dE T q*dE T q)=ai L.pos (ay T (bq l a i j0 j))) {n:Int} :
  GrpH l a ⟨3,[i],[z0,z1],0⟩ ⟨T,[no T (di l a i j0 j) q],n⟩:=by
 obtain⟨n0,n1⟩:=hn j0 (Xx t0.hj);obtain⟨n2,n3⟩:=hn j (Xx t1.hj)
 obtain⟨tb,tn⟩:j.b=i/\j.a∉[i]:=by
  rcases t1.tie with⟨e,hb⟩ |h
  ·exact absurd e ha
  ·exact h
 obtain⟨w,hw⟩:∃w:P2 T,w=mM T q (di l a i j0 j).h (di l a i j0 j).d (di l a i j0 j).w:=⟨_,rfl⟩
 obtain⟨o,ho⟩:∃o:P2 T,o=(ay T (aG l a j0 i).1,ay T (aG l a j0 i).2):=⟨_,rfl⟩
 obtain⟨B0,hB0⟩:∃B0,B0=gd (cr l i j) w (ak l j0 i) o:=⟨_,rfl⟩
 have e0:no T (di l a i j0 j) q=B0:=by rw[hB0,hw,ho];rfl
 rw[e0];have hbs:a7 (aK a) [i] [B0]=(aK a).set i.toNat B0:=rfl;have g0:(a7 (aK a) [i] [B0]).getD i.toNat bb=B0:=by rw[hbs,mn hil]
 have gn:∀b:Int,0<=b->b∉[i]->cV (aK a) (a7 (aK a) [i] [B0]) (llq a.rs).length b:=fun b h0 hb=>oh tw hN (by
  rw[hbs,ki hi h0 (fun e=>hb (by simp[e]))])
 have hD:ai L.pos (ay T (cc l a i j0 j))=ai L.pos (ay T (bU l a i j0 j).1)*ai L.pos (ay T (bU l a i j0 j).1)+ai L.pos (ay T (bU l a i j0 j).2)*ai L.pos (ay T (bU l a i j0 j).2):=by
  rw[<- L.mul,<- L.mul,<- L.add];rfl
 have hI:ai L.pos (iE (ay T (cc l a i j0 j)))*ai L.pos (ay T (cc l a i j0 j))=1:=xg L.pos (fun e=>hd ((L.zero _).1 e))
 have hX:ai L.pos (dE T q)*ai L.pos (dE T q)=ai L.pos (qE (iR l i j))*ai L.pos (ay T (cc l a i j0 j))-ai L.pos (qE (cm l i j0 j))*ai L.pos (qE (cm l i j0 j)):=by
  rw[<- bM,hq];unfold bq;rw[L.sub,L.mul,L.mul,L.q,L.q]
 have eh:dE T (di l a i j0 j).h=qE (cm l i j0 j):=gM _ _;have x1:w.1=(dE T q*ay T (bU l a i j0 j).1-qE (cm l i j0 j)*-ay T (bU l a i j0 j).2)*iE (ay T (cc l a i j0 j)):=by rw[hw,<- eh];rfl
 have x2:w.2=(dE T q*ay T (bU l a i j0 j).2-qE (cm l i j0 j)*ay T (bU l a i j0 j).1)*iE (ay T (cc l a i j0 j)):=by rw[hw,<- eh];rfl
 have G:=J7 hD hI hX (w1:=ai L.pos w.1) (w2:=ai L.pos w.2) (by rw[x1,bM,bR,bM,bM,Cz]) (by rw[x2,bM,bR,bM,bM])
 have hc:CH T B0:=by
  rw[hB0];refine vL L.pos hv ?_;refine(kK L.pos (x:=w.1*w.1+w.2*w.2) (y:=qE (bY (cr l i j) (cr l i j)))).1 ?_;rw[fZ,bM,bM,G.1];rfl
 refine⟨L,?_,?_⟩
 ·intro z hz;show JH l T (a7 (aK a) [i] [B0]) _;rcases List.mem_cons.1 hz with rfl |hz
  ·rw [aq t0.hj];refine L.pin t0.kd (i:=i) ?_ (by rw [g0,hB0,tV,ho]);rcases t0.tie with ⟨e,hb⟩ | ⟨e,hb⟩
   ·exact .inl ⟨e,gn _ n1 hb⟩
   ·exact .inr ⟨fun e2=>hb (by simp[e2]),e,gn _ n0 hb⟩
  ·rw [List.mem_singleton.1 hz, aq t1.hj];refine Cg L.pos (by rw [t1.kd]; decide) ?_;have pp:=L.pt l (gn _ n2 tn) j.point;have eon:aV l T (a7 (aK a) [i] [B0]) j.b j.on = co T B0 (aS l i j.on):=by unfold aV; rw [tb,g0]
   have eto:aV l T (a7 (aK a) [i] [B0]) j.b j.to=co T B0 (aS l i j.to):=by unfold aV;rw[tb,g0]
   have W1:ai L.pos (ay T (bU l a i j0 j).1)=ai L.pos (ay T (aV l (llq a.rs) (aK a) j.a j.point).1)-ai L.pos o.1:=by
    rw[ho,<- L.sub,<- iM];rfl
   have W2:ai L.pos (ay T (bU l a i j0 j).2)=ai L.pos (ay T (aV l (llq a.rs) (aK a) j.a j.point).2)-ai L.pos o.2:=by
    rw[ho,<- L.sub,<- iM];rfl
   have g2:=G.2;rw[W1,W2]at g2;rw[pp.1,pp.2,eon,eto,hB0,nJ,nJ];have gg:=A5 (w:=w) hv
   have hcs:ai L.pos (dt (cr l i j) w)*ai L.pos (dt (cr l i j) w)+ai L.pos (dc (cr l i j) w)*ai L.pos (dc (cr l i j) w)=1:=by
    have h9:=(fv L.pos).2 hc;rw[hB0,vO,uz,bR,fZ,bM,bM,Uo]at h9;grind
   have v1:(qE (cr l i j).1:Et T)=qE ((aS l i j.to).1-(ak l j0 i).1)-qE ((aS l i j.on).1-(ak l j0 i).1):=by rw[<- mz];congr 1;show(aS l i j.to).1-(aS l i j.on).1=_;grind
   have v2:(qE (cr l i j).2:Et T)=qE ((aS l i j.to).2-(ak l j0 i).2)-qE ((aS l i j.on).2-(ak l j0 i).2):=by rw[<- mz];congr 1;show(aS l i j.to).2-(aS l i j.on).2=_;grind
   have hh:(qE (cm l i j0 j):Et T)=qE (cr l i j).1*qE ((aS l i j.on).2-(ak l j0 i).2)-qE (cr l i j).2*qE ((aS l i j.on).1-(ak l j0 i).1):=by
    rw[<- mc,<- mc,<- mz];rfl
   have y1:=congrArg (ai L.pos) gg.1;have y2:=congrArg (ai L.pos) gg.2;rw[hh,bR,bM,bM]at g2;rw[v1,v2]at g2 y1 y2;simp only[fZ,bR,bM]at g2 y1 y2 ⊢
   revert hcs g2 y1 y2
   generalize ai L.pos (qE ((aS l i j.to).1-(ak l j0 i).1):Et T)=a1;generalize ai L.pos (qE ((aS l i j.to).2-(ak l j0 i).2):Et T)=a2;generalize ai L.pos (qE ((aS l i j.on).1-(ak l j0 i).1):Et T)=b1;generalize ai L.pos (qE ((aS l i j.on).2-(ak l j0 i).2):Et T)=b2;generalize ai L.pos (dt (cr l i j) w)=C;generalize ai L.pos (dc (cr l i j) w)=S;generalize ai L.pos (ay T (aV l (llq a.rs) (aK a) j.a j.point).1)=P1;generalize ai L.pos (ay T (aV l (llq a.rs) (aK a) j.a j.point).2)=P2;generalize ai L.pos o.1=o1;generalize ai L.pos o.2=o2;generalize ai L.pos w.1=x1;generalize ai L.pos w.2=x2;intro hcs g2 y1 y2;exact NK hcs g2 y1 y2
 ·intro b hb;rw[List.mem_singleton.1 hb];show CH T ((a7 (aK a) [i] [B0]).getD i.toNat bb);rw[g0];exact hc
end
end Go.Lw
namespace Go.Lw
open Lean.Grind (CommRing)
theorem JW(half:Bool)(t:Rat):de half t*de half t+db half t*db half t=1:=by
 unfold de db;cases half
 ·have h:1+t*t≠0:=by
   have:=oB t;intro e;grind
  simp only[Bool.false_eq_true,if_false]
  have e1:(1-t*t)/(1+t*t)*((1-t*t)/(1+t*t))+(t+t)/(1+t*t)*((t+t)/(1+t*t))=((1-t*t)*(1-t*t)+(t+t)*(t+t))*((1+t*t)⁻¹*(1+t*t)⁻¹):=by
   rw[Rat.div_def,Rat.div_def];grind
  rw[e1];have e2:(1+t*t)*(1+t*t)⁻¹=1:=Rat.mul_inv_cancel _ h;generalize(1+t*t)⁻¹=k at e2 ⊢;have e3:((1-t*t)*(1-t*t)+(t+t)*(t+t))*(k*k)=((1+t*t)*k)*((1+t*t)*k):=by grind
  rw[e3,e2,Rat.one_mul]
 ·simp only[if_true];decide +kernel
section
variable{l:Li}{a:As}{r:Nat}(tw:Tw (llq a.rs) r)(hN:∀p∈aK a,Nq (llq a.rs).length p)
include tw hN
theorem L3{i z0 z1:Int}{j0 j:Jt}(t0:TieO l 0 [i] z0 i j0)(t1:TieO l 1 [i] z1 i j)(ha:j.a≠i)(hi:0<=i)(hil:i.toNat<(aK a).length)(hn:∀j∈l.jo,0<=j.a/\0<=j.b)(hv:bY (cr l i j) (cr l i j)≠0)
  {s:Sv} (hs:s∈jN l a i j0 j):GrpH l a ⟨3,[i],[z0,z1],0⟩ s:=by
 unfold jN at hs;split at hs
 ·cases hs
 ·rename_i h1;split at hs
  ·cases hs
  ·rename_i h2;have hd:=sC tw h2 h1;split at hs
   ·rename_i h3;have hp:=pg tw.pos h3;have L:=rf (bq l a i j0 j) hp;have e:=Ap (bq l a i j0 j);unfold jw at hs;obtain⟨m,hm,rfl⟩:=List.mem_map.1 hs;have hm:=List.mem_range.1 hm;unfold iH
    match m,hm with
    |0,_ =>
     refine AG tw hN t0 t1 ha hi hil hn hv hd L ?_;show ai L.pos (bt (bq l a i j0 j)*bt (bq l a i j0 j))=_;rw[e];rfl
    |1,_ =>
     refine AG tw hN t0 t1 ha hi hil hn hv hd L ?_;show ai L.pos (dE _ (sX (-bt (bq l a i j0 j)))*dE _ (sX (-bt (bq l a i j0 j))))=_;rw[ek,show -bt (bq l a i j0 j)*-bt (bq l a i j0 j)=bt (bq l a i j0 j)*bt (bq l a i j0 j) by grind,e];rfl
    |m+2,h=>exact absurd h (by simp)
   ·rename_i h3;have hX:am (bq l a i j0 j) = 0:=by omega
    have L:=nO (ts:=llq a.rs) tw.pos;unfold jw at hs;obtain⟨m,hm,rfl⟩:=List.mem_map.1 hs;have hm:=List.mem_range.1 hm;unfold iH
    match m,hm with
    |0,_ =>
     refine AG tw hN t0 t1 ha hi hil hn hv hd L ?_;show ai L.pos (dE _ []*dE _ [])=_;have e0:(dE (llq a.rs) []:Et (llq a.rs))=0:=by rw[E.zero_def];exact iW _
     rw[e0,dh];refine((fv L.pos).2 ?_).trans ((fv L.pos).2 hX).symm;rw[show(0:Et (llq a.rs))*0=0 by grind];exact(ep _ _ L.pos).zero
    |m+1,h=>exact absurd h (by simp)
theorem QI{i z0 d:Int}{j0:Jt}(t0:TieO l 0 [i] z0 i j0)(hi:0<=i)(hil:i.toNat<(aK a).length)(hn:∀j∈l.jo,0<=j.a/\0<=j.b){x:Tn}
  {s:Sv} (hs:s∈j9 l a i j0 x):GrpH l a ⟨0,[i],[z0],d⟩ s/\dE s.ts ((a7 (aK a) [i] s.ps).getD i.toNat bb).c=qE (de x.half x.t.q)/\dE s.ts ((a7 (aK a) [i] s.ps).getD i.toNat bb).s=qE (db x.half x.t.q):=by
 unfold j9 at hs;split at hs
 ·cases hs
 ·rw[List.mem_singleton.1 hs];obtain⟨n0,n1⟩:=hn j0 (Xx t0.hj);have L:=nO (ts:=llq a.rs) tw.pos;have hbs:∀B0,a7 (aK a) [i] [B0]=(aK a).set i.toNat B0:=fun _=>rfl
  have g0:∀B0,(a7 (aK a) [i] [B0]).getD i.toNat bb=B0:=fun B0=>by rw[hbs,mn hil]
  have gn:∀(B0:Pq)(b:Int),0<=b->b∉[i]->cV (aK a) (a7 (aK a) [i] [B0]) (llq a.rs).length b:=fun B0 b h0 hb=>oh tw hN (by
   rw[hbs,ki hi h0 (fun e=>hb (by simp[e]))])
  have eN:(jY (((1:Int):Rat),0):Et (llq a.rs))=qE 1:=congrArg qE (show((1:Int):Rat)*((1:Int):Rat)+0*0=1 by decide +kernel);have q1:(qE 1:Et (llq a.rs))=1:=rfl
  have hc:(dE (llq a.rs) (lF l a i j0 x).c:Et (llq a.rs))=qE (de x.half x.t.q):=by
   unfold lF;rw[vO];unfold dt;rw[eN,An,kV,yu];grind
  have hsn:(dE (llq a.rs) (lF l a i j0 x).s:Et (llq a.rs))=qE (db x.half x.t.q):=by
   unfold lF;rw[uz];unfold dc;rw[eN,An,kV,yu];grind
  refine⟨⟨L,?_,?_⟩,by rw[g0];exact hc,by rw[g0];exact hsn⟩
  ·intro z hz;rw [List.mem_singleton.1 hz,aq t0.hj];show JH l (llq a.rs) (a7 (aK a) [i] [lF l a i j0 x]) j0;refine L.pin t0.kd (i:=i) ?_ (by rw [g0,dh,dh]; exact tV);rcases t0.tie with ⟨e,hb⟩ | ⟨e,hb⟩
   ·exact .inl ⟨e,gn _ _ n1 hb⟩
   ·exact .inr ⟨fun e2=>hb (by simp[e2]),e,gn _ _ n0 hb⟩
  ·intro b hb;rw[List.mem_singleton.1 hb];show CH (llq a.rs) ((a7 (aK a) [i] [lF l a i j0 x]).getD i.toNat bb);rw[g0];unfold CH;rw[hc,hsn,<- mc,<- mc,<- ph,JW,q1,show(1:Et (llq a.rs))-1=0 by grind];exact(ep _ _ L.pos).zero
theorem JY{g:Gr}(hg:DyK l g)(hgb:∀b∈g.bo,0<=b/\b.toNat<(aK a).length)(hli:aA l=0){x:Tn}{s:Sv}(hs:s∈eV l a g x):GrpH l a g s/\(g.kind=0->dE s.ts ((a7 (aK a) g.bo s.ps).getD (aP g 0).toNat bb).c=qE (de x.half x.t.q)/\dE s.ts ((a7 (aK a) g.bo s.ps).getD (aP g 0).toNat bb).s=qE (db x.half x.t.q)):=by
 have hn:∀j∈l.jo,0<=j.a/\0<=j.b:=fun j hj=>by
  obtain⟨n,hn⟩:=Yd hj;obtain⟨i1,i2,_⟩:=cO hli hn;have i1:=cW i1;have i2:=cW i2;omega
 cases hg with
 | @drv b z d j dr t d0 hd hb =>
  have e:ao l ⟨0,[b],[z],d⟩ 0=j:=aq t.hj;have hs:s∈j9 l a b j x:=by rw[<- e];exact hs
  obtain⟨h1,h2⟩:=hgb b (by simp);have h:=QI (d:=d) tw hN t h1 h2 hn hs;exact⟨h.1,fun _=>h.2⟩
 | @rrr i k z0 z1 z2 j0 j1 j2 ne t0 t1 h0 h2 kd tie =>
  have e0:ao l ⟨1,[i,k],[z0,z1,z2],0⟩ 0=j0:=aq t0.hj;have e1:ao l ⟨1,[i,k],[z0,z1,z2],0⟩ 1=j1:=aq t1.hj;have e2:ao l ⟨1,[i,k],[z0,z1,z2],0⟩ 2=j2:=aq h2;have hs:s∈jb l a i k j0 j1 j2:=by rw[<- e0,<- e1,<- e2];exact hs
  obtain⟨b1,b2⟩:=hgb i (by simp);obtain⟨b3,b4⟩:=hgb k (by simp);exact⟨M8 tw hN ne t0 t1 h2 kd tie b1 b3 b2 b4 hn hs,fun h=>absurd h (by simp)⟩
 | @pr i z0 z1 j0 j1 t0 t1 ha =>
  have e0:ao l ⟨2,[i],[z0,z1],0⟩ 0=j0:=aq t0.hj;have e1:ao l ⟨2,[i],[z0,z1],0⟩ 1=j1:=aq t1.hj;have hs:s∈jk l a i j0 j1:=by rw[<- e0,<- e1];exact hs
  obtain⟨b1,b2⟩:=hgb i (by simp);exact⟨Qf tw hN t0 t1 ha b1 b2 hn hs,fun h=>absurd h (by simp)⟩
 | @rp i z0 z1 j0 j1 t0 t1 ha =>
  have e0:ao l ⟨3,[i],[z0,z1],0⟩ 0=j0:=aq t0.hj;have e1:ao l ⟨3,[i],[z0,z1],0⟩ 1=j1:=aq t1.hj;have hs:s∈jN l a i j0 j1:=by rw[<- e0,<- e1];exact hs
  obtain⟨b1,b2⟩:=hgb i (by simp)
  have tb:j1.b=i:=by
   rcases t1.tie with⟨e,_⟩ |⟨e,_⟩
   ·exact absurd e ha
   ·exact e
  exact⟨L3 tw hN t0 t1 ha b1 b2 hn (wT hli t1.hj (by rw[t1.kd];decide) tb) hs,fun h=>absurd h (by simp)⟩
end
end Go.Lw
namespace Go.Lw
open Lean.Grind (CommRing)
theorem Om{n N:Nat}(hN:N=n+1){r:(k:Nat)->T k}(h:T.sgn r n (r n)=1):T.sgn r N (ae N (cw n))=1:=by
 subst hN;rw[G3];show T.sgn3 (T.sgn r n (T.zero n)) (T.sgn r n (T.ofQ n 1)) (T.sgn r n (r n)) _=1;rw[h,T.sgn_zero,T.sgn_ofQ];have e:bK 1=1:=by decide +kernel
 rw[e];rfl
theorem yX{ts:LL}{X:Et ts}(h:am X=1):am (bt X)=1:=by
 refine Om (dJ _ _) ?_;rw[vV (XD _)]
 have e1:ax (aR ts (sX X)) ts.length=X:=by
  show ae ts.length ((aR ts (sX X)).getD ts.length [])=X;rw[sk,qM];exact bg _ _
 rw[e1];exact h
theorem GH{ts:LL}(hp:eJ ts){X:Et ts}(h:0<am X):am X=1:=by
 rcases(ep _ _ hp).cs X with g |g |g
 ·have g:am X=-1:=g;omega
 ·have g:am X=0:=g;omega
 ·exact g
theorem wm{ts:LL}(hp:eJ ts){x y:Et ts}(h:ai hp x=ai hp y):am x=am y:=(ep _ _ hp).sub0 ((kK hp).1 h)
theorem yD{ts:LL}(hp:eJ ts)(x:Et ts):am (-x)=-am x:=(ep _ _ hp).neg x
theorem Xt{ts:LL}(hp:eJ ts)(x:Et ts):am (x+x)=am x:=by
 have H:=ep (ax ts) ts.length hp;show sg _ _ (x+x)=sg _ _ x;rcases H.cs x with h |h |h
 ·have n:=H.neg x;have a:=H.padd (x:=-x) (y:=-x) oz oz;have e:=H.neg (x+x);rw[show -(x+x)=-x+-x by grind,a]at e;omega
 ·rw[H.zadd h]
 ·rw[H.padd h oz];exact h.symm
section
variable{R:Type}[CommRing R]
theorem TN{p1 p2 q1 q2 i t a x y:R}(hi:i*(((p1-q1)*(p1-q1)+(p2-q2)*(p2-q2))+((p1-q1)*(p1-q1)+(p2-q2)*(p2-q2)))=1)
  (hx:x=p1+a*i*(q1-p1)+t*(i*-(q2-p2))) (hy:y=p2+a*i*(q2-p2)+t*(i*(q1-p1))) :
  ((q1-p1)*(y-p2)-(q2-p2)*(x-p1))+((q1-p1)*(y-p2)-(q2-p2)*(x-p1))=t:=by
 have e:((q1-p1)*(y-p2)-(q2-p2)*(x-p1))+((q1-p1)*(y-p2)-(q2-p2)*(x-p1))=t*(i*(((p1-q1)*(p1-q1)+(p2-q2)*(p2-q2))+((p1-q1)*(p1-q1)+(p2-q2)*(p2-q2)))):=by
  rw[hx,hy];clear hi hx hy;grind
 rw[e,hi];grind
theorem QR{p1 p2 q1 q2 c1 c2 i t k x y:R}(hi:i*((q1-p1)*(q1-p1)+(q2-p2)*(q2-p2))=1)(hk:k=((q1-p1)*(c1-p1)+(q2-p2)*(c2-p2)+t)*i)
  (hx:x=p1+k*(q1-p1)) (hy:y=p2+k*(q2-p2)):(q1-p1)*(x-c1)+(q2-p2)*(y-c2)=t:=by
 have e:(q1-p1)*(x-c1)+(q2-p2)*(y-c2)=k*((q1-p1)*(q1-p1)+(q2-p2)*(q2-p2))-((q1-p1)*(c1-p1)+(q2-p2)*(c2-p2)):=by
  rw[hx,hy];clear hi hk hx hy;grind
 have e2:k*((q1-p1)*(q1-p1)+(q2-p2)*(q2-p2))=((q1-p1)*(c1-p1)+(q2-p2)*(c2-p2)+t)*(i*((q1-p1)*(q1-p1)+(q2-p2)*(q2-p2))):=by
  rw[hk];clear hi hk hx hy e;grind
 rw[e,e2,hi];grind
theorem SY{W1 W2 hh i t D w1 w2:R}(hD:D=W1*W1+W2*W2)(hi:i*D=1)(h1:w1=(t*W1-hh*-W2)*i)(h2:w2=(t*W2-hh*W1)*i):w1*W1+w2*W2=t:=by
 have e:w1*W1+w2*W2=t*(i*D):=by rw[h1,h2,hD];clear hD hi h1 h2;grind
 rw[e,hi];grind
theorem Ln{ts:LL}{f:Et ts->R}(h:Hm f){p q:P2 ts}{z z2:Et ts}(hd2:am (aB p q+aB p q)≠0){t x y:R}
  (hx:x=f (c9 p q z z2).1+t*f (gj p q).1) (hy:y=f (c9 p q z z2).2+t*f (gj p q).2) :
  ((f q.1-f p.1)*(y-f p.2)-(f q.2-f p.2)*(x-f p.1))+((f q.1-f p.1)*(y-f p.2)-(f q.2-f p.2)*(x-f p.1))=t:=by
 have d:=FA h p q;have hi:=h.inv _ hd2;rw[h.add,d]at hi;refine TN hi (a:=f z+((f p.1-f q.1)*(f p.1-f q.1)+(f p.2-f q.2)*(f p.2-f q.2))-f z2) ?_ ?_
 ·rw[hx,wI];unfold cP gj;dsimp only;show f (p.1+qE ((1:Int):Rat)*iE (aB p q+aB p q)*(z+aB p q-z2)*(q.1-p.1))+t*f (qE ((1:Int):Rat)*iE (aB p q+aB p q)*(0-(q.2-p.2)))=_;simp only[h.add,h.mul,h.sub,h.q1,h.nul,d];generalize(f p.1-f q.1)*(f p.1-f q.1)+(f p.2-f q.2)*(f p.2-f q.2)=D;generalize f (iE (aB p q+aB p q))=i;clear hi hx hy d;grind
 ·rw[hy,wI];unfold cP gj;dsimp only;show f (p.2+qE ((1:Int):Rat)*iE (aB p q+aB p q)*(z+aB p q-z2)*(q.2-p.2))+t*f (qE ((1:Int):Rat)*iE (aB p q+aB p q)*(q.1-p.1))=_;simp only[h.add,h.mul,h.sub,h.q1,d];generalize(f p.1-f q.1)*(f p.1-f q.1)+(f p.2-f q.2)*(f p.2-f q.2)=D;generalize f (iE (aB p q+aB p q))=i;clear hi hx hy d;grind
theorem VN{ts:LL}{f:Et ts->R}(h:Hm f){p q c:P2 ts}(hd:am (bi p q)≠0){t x y:R}
  (hx:x=f (cP p (bE p q c*iE (bi p q)) (aQ q p)).1+t*f (f0 p q).1) (hy:y=f (cP p (bE p q c*iE (bi p q)) (aQ q p)).2+t*f (f0 p q).2) :
  (f q.1-f p.1)*(x-f c.1)+(f q.2-f p.2)*(y-f c.2)=t:=by
 have hi:=h.inv _ hd
 have eS:f (bi p q)=(f q.1-f p.1)*(f q.1-f p.1)+(f q.2-f p.2)*(f q.2-f p.2):=by
  show f ((q.1-p.1)*(q.1-p.1)+(q.2-p.2)*(q.2-p.2))=_;simp only[h.add,h.mul,h.sub]
 have eE:f (bE p q c)=(f q.1-f p.1)*(f c.1-f p.1)+(f q.2-f p.2)*(f c.2-f p.2):=by
  show f ((q.1-p.1)*(c.1-p.1)+(q.2-p.2)*(c.2-p.2))=_;simp only[h.add,h.mul,h.sub]
 rw[eS]at hi;refine QR hi (k:=(f (bE p q c)+t)*f (iE (bi p q))) (by rw[eE]) ?_ ?_
 ·rw[hx];unfold cP f0;show f (p.1+bE p q c*iE (bi p q)*(q.1-p.1))+t*f (qE ((1:Int):Rat)*iE (bi p q)*(q.1-p.1))=_;simp only[h.add,h.mul,h.sub,h.q1];generalize f (iE (bi p q))=i;generalize f (bE p q c)=e;clear hi hx hy eS eE;grind
 ·rw[hy];unfold cP f0;show f (p.2+bE p q c*iE (bi p q)*(q.2-p.2))+t*f (qE ((1:Int):Rat)*iE (bi p q)*(q.2-p.2))=_;simp only[h.add,h.mul,h.sub,h.q1];generalize f (iE (bi p q))=i;generalize f (bE p q c)=e;clear hi hx hy eS eE;grind
end
structure CirD(ts T:LL)(x:List Rat×List Rat)(p q:P2 ts)(z z2:Et ts)(m:Int):Prop where
  lf:Lf ts T
  ex:∀d:Et T,ai lf.pos d=(ai lf.pos (ay T q.1)-ai lf.pos (ay T p.1))*(ai lf.pos (dE T x.2)-ai lf.pos (ay T p.2))-(ai lf.pos (ay T q.2)-ai lf.pos (ay T p.2))*(ai lf.pos (dE T x.1)-ai lf.pos (ay T p.1)) ->
    am d=m
section
variable{ts:LL}
theorem ye{T:LL}(L:Lf ts T){x:List Rat×List Rat}{p q:P2 ts}{z z2:Et ts}(hd2:am (aB p q+aB p q)≠0){t:Et T}
  (hx:dE T x.1=ay T (c9 p q z z2).1+t*ay T (gj p q).1) (hy:dE T x.2=ay T (c9 p q z z2).2+t*ay T (gj p q).2) {m:Int} (hm:am t=m):CirD ts T x p q z z2 m:=by
 have g:=Ln L.hm hd2 (z:=z) (z2:=z2) (t:=ai L.pos t) (x:=ai L.pos (dE T x.1)) (y:=ai L.pos (dE T x.2)) (by rw[hx];rfl) (by rw[hy];rfl);refine⟨L,fun d hd=>?_⟩;have e:ai L.pos (d+d)=ai L.pos t:=by rw[fZ,hd];exact g
 rw[<- hm,<- Xt L.pos d];exact wm L.pos e
theorem QS{r:Nat}(tw:Tw ts r){p q:P2 ts}{z z2:Et ts}(h0:fB p q z z2=0)(hz:0<am z) :
  ∀(i:Nat)(x:List Rat×List Rat),(dY p q z z2).ps[i]?=some x->CirD ts (dY p q z z2).ts x p q z z2 (if(dY p q z z2).ps.length=1 then 0 else 1-2*(i:Int)):=by
 intro i x;unfold fB k9 at h0;unfold dY;split
 ·rename_i hd;rw[Yl hd]at h0;unfold kP;split
  ·intro hx;simp at hx
  ·intro hx;simp at hx
 ·rename_i hd;have hd2:=GG tw hd;split
  ·intro hx;simp at hx
  ·rename_i hn;split
   ·rename_i hX;intro hx
    match i,hx with
    |0,hx =>
     have hx:(c9 p q z z2).l=x:=Option.some.inj hx;subst hx;have hp:eJ ts:=tw.pos;refine ye (nO hp) hd2 (t:=0) ?_ ?_ ?_
     ·rw[dh,dh,ek];grind
     ·rw[dh,dh,ek];grind
     ·exact(ep _ _ hp).zero
    |i+1,hx=>simp at hx
   ·rename_i hX;have hX1:0 < am (bn p z q z2):=by omega
    have hp:=pg tw.pos hX1;have L:=rf (bn p z q z2) hp;have s1:=yX (GH tw.pos hX1);intro hx
    match i,hx with
    |0,hx =>
     have hx:(gy (bn p z q z2) (c9 p q z z2) (fx p q) (dW (bn p z q z2) (aB p q))).l=x:=Option.some.inj hx;subst hx;refine ye L hd2 (t:=bt (bn p z q z2)) ?_ ?_ s1
     ·rw[ek];exact congrArg Prod.fst (tZ (bn p z q z2) (c9 p q z z2) p q)
     ·rw[ek];exact congrArg Prod.snd (tZ (bn p z q z2) (c9 p q z z2) p q)
    |1,hx =>
     have hx:(gy (bn p z q z2) (c9 p q z z2) (fx p q) (qE ((-1:Int):Rat)*dW (bn p z q z2) (aB p q))).l=x:=Option.some.inj hx;subst hx;refine ye L hd2 (t:=-bt (bn p z q z2)) ?_ ?_ (by rw[yD hp,s1];rfl)
     ·rw[ek,congrArg Prod.fst (we (bn p z q z2) (c9 p q z z2) p q)];show aL _ _-_*aL _ _=aL _ _+-_*aL _ _;grind
     ·rw[ek,congrArg Prod.snd (we (bn p z q z2) (c9 p q z z2) p q)];show aL _ _-_*aL _ _=aL _ _+-_*aL _ _;grind
    |i+2,hx=>simp at hx
structure LinD(ts T:LL)(x:List Rat×List Rat)(p q c:P2 ts)(z:Et ts)(m:Int):Prop where
  lf:Lf ts T
  ex:∀d:Et T,ai lf.pos d=(ai lf.pos (ay T q.1)-ai lf.pos (ay T p.1))*(ai lf.pos (dE T x.1)-ai lf.pos (ay T c.1))+(ai lf.pos (ay T q.2)-ai lf.pos (ay T p.2))*(ai lf.pos (dE T x.2)-ai lf.pos (ay T c.2)) ->
    am d=m
theorem xY{T:LL}(L:Lf ts T){x:List Rat×List Rat}{p q c:P2 ts}{z:Et ts}(hd:am (bi p q)≠0){t:Et T}
  (hx:dE T x.1=ay T (cP p (bE p q c*iE (bi p q)) (aQ q p)).1+t*ay T (f0 p q).1) (hy:dE T x.2=ay T (cP p (bE p q c*iE (bi p q)) (aQ q p)).2+t*ay T (f0 p q).2) {m:Int} (hm:am t=m):LinD ts T x p q c z m:=by
 have g:=VN L.hm hd (c:=c) (t:=ai L.pos t) (x:=ai L.pos (dE T x.1)) (y:=ai L.pos (dE T x.2)) (by rw[hx];rfl) (by rw[hy];rfl);refine⟨L,fun d hd=>?_⟩;have e:ai L.pos d=ai L.pos t:=by rw[hd];exact g
 rw[<- hm];exact wm L.pos e
theorem Nk{r:Nat}(tw:Tw ts r){p q c:P2 ts}{z:Et ts}(h0:fJ p q=0) :
  ∀(i:Nat)(x:List Rat×List Rat),(dZ p q c z).ps[i]?=some x->LinD ts (dZ p q c z).ts x p q c z (if(dZ p q c z).ps.length=1 then 0 else 1-2*(i:Int)):=by
 intro i x;unfold fJ at h0;unfold dZ;split
 ·intro hx;simp at hx
 ·rename_i hd;split
  ·intro hx;simp at hx
  ·rename_i hn;split
   ·rename_i hX;intro hx
    match i,hx with
    |0,hx =>
     have hx:(cP p (bE p q c*iE (bi p q)) (aQ q p)).l=x:=Option.some.inj hx;subst hx;have hp:eJ ts:=tw.pos;refine xY (nO hp) hd (t:=0) ?_ ?_ ?_
     ·rw[dh,dh,ek];grind
     ·rw[dh,dh,ek];grind
     ·exact(ep _ _ hp).zero
    |i+1,hx=>simp at hx
   ·rename_i hX
    have hX2:am (aU p q c z)=1:=by
     rcases(ep _ _ tw.pos).cs (aU p q c z)with g |g |g
     ·exact absurd g hn
     ·exact absurd g hX
     ·exact g
    have hX1:0<am (aU p q c z):=by omega
    have hp:=pg tw.pos hX1;have L:=rf (aU p q c z) hp;have s1:=yX hX2;intro hx
    match i,hx with
    |0,hx =>
     have hx:(jf (aU p q c z) p (aQ q p) (fm (aU p q c z) (bi p q) (aL (aU p q c z) (bE p q c)+bt (aU p q c z)))).l=x:=Option.some.inj hx;subst hx;refine xY L hd (t:=bt (aU p q c z)) ?_ ?_ s1
     ·rw[ek];exact congrArg Prod.fst (uE (aU p q c z) p q c)
     ·rw[ek];exact congrArg Prod.snd (uE (aU p q c z) p q c)
    |1,hx =>
     have hx:(jf (aU p q c z) p (aQ q p) (fm (aU p q c z) (bi p q) (aL (aU p q c z) (bE p q c)-bt (aU p q c z)))).l=x:=Option.some.inj hx;subst hx;refine xY L hd (t:=-bt (aU p q c z)) ?_ ?_ (by rw[yD hp,s1];rfl)
     ·rw[ek,congrArg Prod.fst (xI (aU p q c z) p q c)];show aL _ _-_*aL _ _=aL _ _+-_*aL _ _;grind
     ·rw[ek,congrArg Prod.snd (xI (aU p q c z) p q c)];show aL _ _-_*aL _ _=aL _ _+-_*aL _ _;grind
    |i+2,hx=>simp at hx
end
def pinP(l:Li)(T:LL)(bs:List Pq)(j:Jt)(b:Int):P2 T:=if j.a=b then aV l T bs j.b j.on else aV l T bs j.a j.point
def cD(l:Li)(T:LL)(bs:List Pq)(g:Gr):Et T :=
  if g.kind=0 then qE 1
  else if g.kind=1 then gN (aQ (pinP l T bs (ao l g 1) (aP g 1)) (pinP l T bs (ao l g 0) (aP g 0))) (aQ (co T (bs.getD (aP g 0).toNat bb) (ak l (ao l g 2) (aP g 0))) (pinP l T bs (ao l g 0) (aP g 0)))
  else if g.kind=2 then dB (aQ (aV l T bs (ao l g 1).b (ao l g 1).to) (aV l T bs (ao l g 1).b (ao l g 1).on)) (aQ (co T (bs.getD (aP g 0).toNat bb) (aS l (aP g 0) (ao l g 1).point)) (pinP l T bs (ao l g 0) (aP g 0)))
  else dB (aQ (aV l T bs (ao l g 1).b (ao l g 1).to) (aV l T bs (ao l g 1).b (ao l g 1).on)) (aQ (aV l T bs (ao l g 1).a (ao l g 1).point) (pinP l T bs (ao l g 0) (aP g 0)))
def p7(l:Li)(T:LL)(bs:List Pq)(g:Gr):Et T :=
  if g.kind=0 then qE 1
  else if g.kind=1 then bn (pinP l T bs (ao l g 0) (aP g 0)) (qE (bF (ak l (ao l g 2) (aP g 0)) (ak l (ao l g 0) (aP g 0)))) (pinP l T bs (ao l g 1) (aP g 1)) (qE (bF (ak l (ao l g 2) (aP g 1)) (ak l (ao l g 1) (aP g 1))))
  else if g.kind=2 then aU (aV l T bs (ao l g 1).b (ao l g 1).on) (aV l T bs (ao l g 1).b (ao l g 1).to) (pinP l T bs (ao l g 0) (aP g 0)) (qE (bF (aS l (aP g 0) (ao l g 1).point) (ak l (ao l g 0) (aP g 0))))
  else qE (iR l (aP g 0) (ao l g 1))*dB (aQ (aV l T bs (ao l g 1).a (ao l g 1).point) (pinP l T bs (ao l g 0) (aP g 0))) (aQ (aV l T bs (ao l g 1).a (ao l g 1).point) (pinP l T bs (ao l g 0) (aP g 0)))
    - qE (cm l (aP g 0) (ao l g 0) (ao l g 1))*qE (cm l (aP g 0) (ao l g 0) (ao l g 1))
theorem o0(l:Li)(a:As)(j:Jt)(b:Int):aG l a j b=pinP l (llq a.rs) (aK a) j b:=by
 unfold aG pinP;split
 ·exact iM l a _ _
 ·exact iM l a _ _
theorem Mi(a:As)(b:Int)(q:Rat×Rat):km a b q=co (llq a.rs) ((aK a).getD b.toNat bb) q:=by
 have e:(aK a).getD b.toNat bb=⟨lq (a.bs.getD b.toNat default).c,lq (a.bs.getD b.toNat default).s,lq (a.bs.getD b.toNat default).x,lq (a.bs.getD b.toNat default).y⟩:=by
  unfold aK;rw[Xy,Xy,XE];cases a.bs[b.toNat]? <;> rfl
 rw[e];rfl
theorem SP(l:Li)(a:As)(g:Gr):iJ l a g=cD l (llq a.rs) (aK a) g:=by
 unfold iJ cD bU;simp only[o0,iM,Mi]
theorem zG(l:Li)(a:As)(g:Gr):Am l a g=p7 l (llq a.rs) (aK a) g:=by
 unfold Am p7 cc bU;simp only[o0,iM];rfl
section
variable{ts T:LL}(L:Lf ts T)
include L
theorem Lf.pinP{l:Li}{bs bs':List Pq}{j:Jt}(b:Int)(ha:cV bs bs' ts.length j.a)(hb:cV bs bs' ts.length j.b) :
  ai L.pos (Lw.pinP l T bs' j b).1=ai L.pos (ay T (Lw.pinP l ts bs j b).1)/\ai L.pos (Lw.pinP l T bs' j b).2=ai L.pos (ay T (Lw.pinP l ts bs j b).2):=by
 unfold Lw.pinP;split
 ·exact L.pt l hb _
 ·exact L.pt l ha _
theorem SH{l:Li}{bs bs':List Pq}{g:Gr}(h0:g.kind≠0->cV bs bs' ts.length (ao l g 0).a/\cV bs bs' ts.length (ao l g 0).b)(h1:g.kind≠0->cV bs bs' ts.length (ao l g 1).a/\cV bs bs' ts.length (ao l g 1).b)
  (hb:g.kind≠0->cV bs bs' ts.length (aP g 0)):ai L.pos (cD l T bs' g)=ai L.pos (ay T (cD l ts bs g)):=by
 unfold cD
 by_cases k0:g.kind=0
 ·rw[Yl k0,Yl k0,L.q]
 ·rw[Yk k0,Yk k0];have p0:=L.pinP (l:=l) (aP g 0) (h0 k0).1 (h0 k0).2;have p1:=L.pinP (l:=l) (aP g 1) (h1 k0).1 (h1 k0).2
  have own:∀m,ai L.pos (co T (bs'.getD (aP g 0).toNat bb) m).1=ai L.pos (ay T (co ts (bs.getD (aP g 0).toNat bb) m).1)/\ai L.pos (co T (bs'.getD (aP g 0).toNat bb) m).2=ai L.pos (ay T (co ts (bs.getD (aP g 0).toNat bb) m).2):=by
   intro m;rw[(hb k0).1];exact L.at (hb k0).2 m
  have qa:=fun pt=>L.pt l (h1 k0).1 pt
  have qb:=fun pt=>L.pt l (h1 k0).2 pt
  by_cases k1:g.kind=1
  ·rw[Yl k1,Yl k1];unfold gN crsE aQ;dsimp only;simp only[L.sub,L.mul,bR,bM];rw[p0.1,p0.2,p1.1,p1.2,(own _).1,(own _).2]
  ·rw[Yk k1,Yk k1]
   by_cases k2:g.kind=2
   ·rw[Yl k2,Yl k2];unfold dB dotE aQ;dsimp only;simp only[L.sub,L.mul,L.add,bR,bM,fZ];rw[p0.1,p0.2,(own _).1,(own _).2,(qb _).1,(qb _).2,(qb _).1,(qb _).2]
   ·rw[Yk k2,Yk k2];unfold dB dotE aQ;dsimp only;simp only[L.sub,L.mul,L.add,bR,bM,fZ];rw[p0.1,p0.2,(qa _).1,(qa _).2,(qb _).1,(qb _).2,(qb _).1,(qb _).2]
theorem yr{l:Li}{bs bs':List Pq}{g:Gr}(p0:g.kind≠0->ai L.pos (Lw.pinP l T bs' (ao l g 0) (aP g 0)).1=ai L.pos (ay T (Lw.pinP l ts bs (ao l g 0) (aP g 0)).1)/\ai L.pos (Lw.pinP l T bs' (ao l g 0) (aP g 0)).2=ai L.pos (ay T (Lw.pinP l ts bs (ao l g 0) (aP g 0)).2))
  (p1:g.kind=1->ai L.pos (Lw.pinP l T bs' (ao l g 1) (aP g 1)).1=ai L.pos (ay T (Lw.pinP l ts bs (ao l g 1) (aP g 1)).1)/\ai L.pos (Lw.pinP l T bs' (ao l g 1) (aP g 1)).2=ai L.pos (ay T (Lw.pinP l ts bs (ao l g 1) (aP g 1)).2))
  (hb:g.kind=2->∀pt,ai L.pos (aV l T bs' (ao l g 1).b pt).1=ai L.pos (ay T (aV l ts bs (ao l g 1).b pt).1)/\ai L.pos (aV l T bs' (ao l g 1).b pt).2=ai L.pos (ay T (aV l ts bs (ao l g 1).b pt).2))
  (ha:g.kind≠0->g.kind≠1->g.kind≠2->∀pt,ai L.pos (aV l T bs' (ao l g 1).a pt).1=ai L.pos (ay T (aV l ts bs (ao l g 1).a pt).1)/\ai L.pos (aV l T bs' (ao l g 1).a pt).2=ai L.pos (ay T (aV l ts bs (ao l g 1).a pt).2)) :
  ai L.pos (p7 l T bs' g)=ai L.pos (ay T (p7 l ts bs g)):=by
 unfold p7
 by_cases k0:g.kind=0
 ·rw[Yl k0,Yl k0,L.q]
 ·rw[Yk k0,Yk k0];have p0:=p0 k0
  by_cases k1:g.kind=1
  ·rw[Yl k1,Yl k1];have p1:=p1 k1;unfold bn aB dB dotE aQ;dsimp only;simp only[L.sub,L.mul,L.add,L.q,bR,bM,fZ];rw[p0.1,p0.2,p1.1,p1.2]
  ·rw[Yk k1,Yk k1]
   by_cases k2:g.kind=2
   ·rw[Yl k2,Yl k2];have qb:=hb k2;unfold aU bi ib dB dotE gN crsE aQ;dsimp only;simp only[L.sub,L.mul,L.add,L.q,bR,bM,fZ];rw[p0.1,p0.2,(qb _).1,(qb _).2,(qb _).1,(qb _).2]
   ·rw[Yk k2,Yk k2];have qa:=ha k0 k1 k2;unfold dB dotE aQ;dsimp only;simp only[L.sub,L.mul,L.add,L.q,bR,bM,fZ];rw[p0.1,p0.2,(qa _).1,(qa _).2]
end
end Go.Lw
namespace Go.Lw
open Lean.Grind (CommRing)
section
variable{R:Type}[CommRing R]
end
section
variable{T:LL}(hp:eJ T){p:Pq}
include hp
end
section
variable{l:Li}{T:LL}{bs:List Pq}{g:Gr}
theorem Si(h:g.kind=1):cD l T bs g=gN (aQ (pinP l T bs (ao l g 1) (aP g 1)) (pinP l T bs (ao l g 0) (aP g 0))) (aQ (co T (bs.getD (aP g 0).toNat bb) (ak l (ao l g 2) (aP g 0))) (pinP l T bs (ao l g 0) (aP g 0))):=by
 unfold cD;rw[Yk oz,Yl h]
theorem LR(h:g.kind=2):cD l T bs g=dB (aQ (aV l T bs (ao l g 1).b (ao l g 1).to) (aV l T bs (ao l g 1).b (ao l g 1).on)) (aQ (co T (bs.getD (aP g 0).toNat bb) (aS l (aP g 0) (ao l g 1).point)) (pinP l T bs (ao l g 0) (aP g 0))):=by
 unfold cD;rw[Yk oz,Yk oz,Yl h]
theorem S8(h:g.kind=3):cD l T bs g=dB (aQ (aV l T bs (ao l g 1).b (ao l g 1).to) (aV l T bs (ao l g 1).b (ao l g 1).on)) (aQ (aV l T bs (ao l g 1).a (ao l g 1).point) (pinP l T bs (ao l g 0) (aP g 0))):=by
 unfold cD;rw[Yk oz,Yk oz,Yk oz]
end
section
variable{l:Li}{T:LL}(hp:eJ T){bs:List Pq}
include hp
end
end Go.Lw
namespace Go.Lw
open Go.Proofs
theorem Jv{P:Program}{f:FuncId}{sz:Nat}{r:AV}{H H':Hp}(h:∀(a:Option Addr)(cap:Nat),Con P f [.v (.slice a 0 cap)] H r H'):Con P f [.lst sz []] H r H' :=
 ⟨(h none 0).ok,fun ext m w vs he hr hn hv=>by
  have hn1:vs.size=1:=hn;have h0:=hv 0 vs[0] (.lst sz []) (by simp[hn1]) rfl
  have hy:∃a cap,vs[0]=.slice a 0 cap:=by
   generalize vs[0]=y at h0;cases h0 with
   |lst0 a cap=>exact⟨_,_,rfl⟩
   |lst u hb hc hl hs h1 hu hrr=>exact⟨_,_,rfl⟩
  obtain⟨a,cap,hy⟩:=hy;refine(h a cap).ret ext m w vs he hr hn (fun j v x hv2 hx=>?_)
  match j,hx with
  |0,hx =>
   cases hx;have:v=.slice a 0 cap:=by rw[<- hy];have:=Array.getElem?_eq_some_iff.1 hv2;exact this.2.symm
   subst this;exact .v _⟩
theorem VY(e:AV)(es:List AV)(hc:∀x∈e::es,x.cells.length=1)(hl:(e::es).length<=1000):Con prog 297 [.lst 1 (e::es)] [] (.ms 901 1 0 (e::es).length) [(901,some (.row 1 (e::es)))]:=by
 refine gF func297 (fun k z h=>by cases h) ?_;refine gs (xy (.tmp rfl) (by kernel_rfl) rfl) ?_;refine gC (fun t4=>?_) (fun t4=>?_) (st1:=(2,0));cases t4;refine gs (iK T39 rfl T3 rfl rfl rfl) ?_;refine gs (bX (.tmp rfl) rfl rfl (.tmp rfl) T39 rfl T3 rfl rfl (by simp only[];omega) rfl rfl) ?_ (77777,0);refine gW (Wk.of (sl:=[(2,some (.ms 7 1 0 (e::es).length))]) (hp:=[(7,some (.row 1 (e::es)))]) (.cons rfl (Sub.of (congrArg (AV.ms 7 1 0) (Nat.zero_add _))) .nil) (.k .nil)) ?_;refine gR ?_;exact az.own1 rfl rfl rfl
theorem Lq(a:Option Addr)(cap:Nat):Con prog 297 [.v (.slice a 0 cap)] [] (.ms 901 1 0 0) [(901,some (.row 1 []))]:=by
 refine gF func297 (fun k z h=>by cases h) ?_;refine gs (vN (.tmp rfl) (by kernel_rfl) rfl) ?_;refine gC (fun t4=>?_) (fun t4=>?_) (st1:=(2,0)) (st2:=(77777,0))
 ·refine gW ((Wk.virt 901 1 rfl).trans<|Wk.o (sl:=[]) (hp:=[(901,some (.row 1 []))])) ?_;refine gR ?_;exact(az.keep (bj rfl)).sub (Sub.nM _ _ _)
 refine gW (Wk.of (sl:=[(0,some (.lst 1 []))]) (hp:=[]) (.cons rfl (Sub.nil _ _ _) .nil) .nil) ?_;refine gs (iK T39 rfl T3 rfl rfl rfl) ?_;refine gs (bX (.tmp rfl) rfl rfl (.tmp rfl) T39 rfl T3 rfl rfl (by simp) rfl rfl) ?_ (77777,0);refine gW (Wk.o (sl:=[(2,some (.ms 7 1 0 0))]) (hp:=[(7,some (.row 1 []))])) ?_;refine gR ?_;exact az.own1 rfl rfl rfl
theorem TU(e:AV)(es:List AV)(hc:∀x∈e::es,x.cells.length=4)(hl:(e::es).length<=1000):Con prog 299 [.lst 4 (e::es)] [] (.ms 900 4 0 (e::es).length) [(900,some (.row 4 (e::es)))]:=by
 refine gF func299 (fun k z h=>by cases h) ?_;refine gs (xy (.tmp rfl) (by kernel_rfl) rfl) ?_;refine gC (fun t4=>?_) (fun t4=>?_) (st1:=(2,0));cases t4;refine gs (iK T38 rfl T69 rfl rfl rfl) ?_;refine gs (bX (.tmp rfl) rfl rfl (.tmp rfl) T38 rfl T69 rfl rfl (by simp only[];omega) rfl rfl) ?_ (77777,0);refine gW (Wk.of (sl:=[(2,some (.ms 7 4 0 (e::es).length))]) (hp:=[(7,some (.row 4 (e::es)))]) (.cons rfl (Sub.of (congrArg (AV.ms 7 4 0) (Nat.zero_add _))) .nil) (.k .nil)) ?_;refine gR ?_;exact az.own1 rfl rfl rfl
theorem Xg(a:Option Addr)(cap:Nat):Con prog 299 [.v (.slice a 0 cap)] [] (.ms 900 4 0 0) [(900,some (.row 4 []))]:=by
 refine gF func299 (fun k z h=>by cases h) ?_;refine gs (vN (.tmp rfl) (by kernel_rfl) rfl) ?_;refine gC (fun t4=>?_) (fun t4=>?_) (st1:=(2,0)) (st2:=(77777,0))
 ·refine gW ((Wk.virt 900 4 rfl).trans<|Wk.o (sl:=[]) (hp:=[(900,some (.row 4 []))])) ?_;refine gR ?_;exact(az.keep (bj rfl)).sub (Sub.nM _ _ _)
 refine gW (Wk.of (sl:=[(0,some (.lst 4 []))]) (hp:=[]) (.cons rfl (Sub.nil _ _ _) .nil) .nil) ?_;refine gs (iK T38 rfl T69 rfl rfl rfl) ?_;refine gs (bX (.tmp rfl) rfl rfl (.tmp rfl) T38 rfl T69 rfl rfl (by simp) rfl rfl) ?_ (77777,0);refine gW (Wk.o (sl:=[(2,some (.ms 7 4 0 0))]) (hp:=[(7,some (.row 4 []))])) ?_;refine gR ?_;exact az.own1 rfl rfl rfl
theorem HK(es:List AV)(hc:∀x∈es,x.cells.length=1)(hl:es.length<=1000):Con prog 297 [.lst 1 es] [] (.ms 901 1 0 es.length) [(901,some (.row 1 es))]:=by
 cases es with
 |nil=>exact Jv Lq
 |cons e es=>exact VY e es hc hl
theorem Rf(es:List AV)(hc:∀x∈es,x.cells.length=4)(hl:es.length<=1000):Con prog 299 [.lst 4 es] [] (.ms 900 4 0 es.length) [(900,some (.row 4 es))]:=by
 cases es with
 |nil=>exact Jv Xg
 |cons e es=>exact TU e es hc hl
theorem Wa(es:List AV)(hc:∀x∈es,x.cells.length=1)(hl:es.length<=1000):FP 297 [.lst 1 es] (.lst 1 es):=by
 have h:=Con.freeze oz (HK es hc hl)
 rwa [Yh,XP]at h
theorem Ja(ms:List Int):∀x∈ms.map i64,x.cells.length=1:=fun x hx=>by obtain⟨m,_,rfl⟩:=List.mem_map.1 hx;rfl
theorem OR(bs:List Pq):∀x∈bs.map Pq.av,x.cells.length=4:=fun x hx=>by obtain⟨m,_,rfl⟩:=List.mem_map.1 hx;rfl
theorem rG{n e:Nat}{x:List Rat}(h:Nm n e x)(he:e<=100000000000):FP 298 [nA x] (nA x):=by
 have hlen:=h.nl.len5 h.five;have hqs:∀q∈x,Qs q:=fun q hq=>h.cb.qs oz hq
 refine aj func298 ?_;refine gl ?_;refine gW (Wk.virt 901 3 rfl) ?_;refine aW [6,7] [] (fun(j:Nat)=>[(3,some (.ms 901 3 0 j)),(8,some (i64 j))]) (fun j=>[(901,some (.row 3 ((x.take j).map qA)))]) (fun j=>j<=x.length) (fun j=>x.length-j) 0 (XJ _) ?_ (h1:=(.cons rfl (Sub.nM _ _ _) (.k .nil)));rintro j hj K1 J1;refine gC (fun t9=>?_) (fun t9=>?_) (st2:=(7,0))
 ·have hjn:=a6 t9;obtain⟨q,hq⟩:=aw hjn;have hadd:=ni (rt q) (rt 0) (hqs q (Xx hq)).ok Qs.zero.ok;rw[rE,bV]at hadd;refine gi (aE hq) ?_;refine gc (Con.sA (.cons (.refl _) (.cons jx .nil)) hadd) ?_;refine gs (bX (.tmp rfl) rfl (by rw[XA,XO];omega) (.tmp rfl) T67 rfl T45 rfl rfl (by simp only[XK,XM];omega) rfl rfl) ?_ (6,0);refine gW (Wk.of (sl:=[(6,some (nA x)),(7,some (i64 x.length)),(8,some (i64 j)),(3,some (.ms 17 3 0 (j+1)))]) (hp:=[(17,some (.row 3 ((x.take (j+1)).map qA)))]) aZ (.cons rfl (BlkSub.of (by rw[dR hq,XQ];rfl)) .nil)) ?_ (6,0);refine gW (Wk.rk (k:=17) (d:=901) rfl rfl) ?_;refine ga aN ?_;exact aO J1 (j+1) hjn
 have hjn:=bc hj t9;subst hjn;refine gW ((Wk.freeze (k:=901) rfl).trans<|Wk.of (sl:=[(3,some (nA x))]) (hp:=[]) (.cons rfl (Sub.of (by rw[bJ (by simp)];simp[nA])) .nil) .nil) ?_;refine af ?_;rfl
theorem QV{a:Aq}{n e:Nat}(h5:n<=5)(ht:∀x∈a.ts,Nm n e x)(hb:∀p∈a.bs,Pq.ok n e p)(he:e<=100000000000)(l1:a.ts.length<=100)(l2:a.bs.length<=100)(l3:a.ms.length<=100):FP 199 [a.av] a.av:=by
 refine aj func199 ?_;refine gc (Wa _ (Ja _) (by rw[XA];omega)) ?_;refine gl ?_;refine gW (Wk.virt 900 1 rfl) ?_;refine aW [1,2,3,14,15] [1,2] (fun(i:Nat)=>[(16,some (i64 i))]) (fun i=>[(3,some (.box [.ms 900 1 0 i,nS,.lst 1 (a.ms.map i64)])),(900,some (.row 1 ((a.ts.take i).map nA)))]) (fun i=>i<=a.ts.length) (fun i=>a.ts.length-i) 0 (XJ _) ?_ (h2:=(.cons rfl (BlkSub.bL (.cons (.nM _ _ _) (.cons (.refl _) (.cons (.refl _) .nil))) rfl) (.k .nil)));rintro i hi K1 J1;refine gC (fun t17=>?_) (fun t17=>?_) (st2:=(7,0))
 ·have hin:=a6 t17;obtain ⟨d,hd⟩:=aw hin;refine gi (aE hd) ?_;refine gc (rG (ht d (Xx hd)) he) ?_;refine gs (bX (.tmp rfl) rfl (by rw [XA,XO]; omega) (.tmp rfl) T35 rfl T67 rfl rfl (by simp only [XK,XM]; omega) rfl rfl) ?_;refine gD ?_ (6,0);refine gW (Wk.of (sl:=[(1,some (.ptr 1 0)),(2,some (.ptr 2 0)),(3,some (.ptr 3 0)),(14,some (.lst 1 (a.ts.map nA))),(15,some (i64 a.ts.length)),(16,some (i64 i))]) (hp:=[(1,some (.box a.cs)),(2,some (.box [nS,nS,nS])),(3,some (.box [.ms 26 1 0 (i + 1),nS,.lst 1 (a.ms.map i64)])),(26,some (.row 1 ((a.ts.take (i + 1)).map nA)))]) aZ (.k (.k (.k (.cons rfl (BlkSub.of (by rw [dR hd,XQ]; rfl)) .nil))))) ?_ (6,0)
  refine gW (Wk.rk (k:=26) (d:=900) rfl rfl) ?_;refine ga aN ?_;exact aO J1 (i+1) hin
 have hin:=bc hi t17;subst hin;refine gW ((Wk.freeze (k:=900) rfl).trans<|Wk.of (sl:=[(1,some (.ptr 1 0)),(2,some (.ptr 2 0)),(3,some (.ptr 3 0))]) (hp:=[(1,some (.box a.cs)),(2,some (.box [nS,nS,nS])),(3,some (.box [.lst 1 (a.ts.map nA),nS,.lst 1 (a.ms.map i64)]))]) aZ (.k (.k (.cons rfl (BlkSub.bL (.cons (Sub.of (by rw[bJ (by simp)];simp)) (.cons (.refl _) (.cons (.refl _) .nil))) rfl) .nil)))) ?_;refine gl ?_;refine gW (Wk.virt 902 4 rfl) ?_;refine aW [1,2,3,31,32] [1,2] (fun(i:Nat)=>[(33,some (i64 i))]) (fun i=>[(3,some (.box [.lst 1 (a.ts.map nA),.ms 902 4 0 i,.lst 1 (a.ms.map i64)])),(902,some (.row 4 ((a.bs.take i).map Pq.av)))]) (fun i=>i<=a.bs.length) (fun i=>a.bs.length-i) 0 (XJ _) ?_ (h2:=(.cons rfl (BlkSub.bL (.cons (.refl _) (.cons (.nM _ _ _) (.cons (.refl _) .nil))) rfl) (.k .nil)));rintro i hi K2 J2;refine gC (fun t34=>?_) (fun t34=>?_) (st2:=(12,0))
 ·have hin:=a6 t34;obtain ⟨p,hp⟩:=aw hin;have ok:=hb p (Xx hp);refine gi (aE hp) ?_;refine gc (rG ok.c he) ?_;refine gc (rG ok.s he) ?_;refine gc (rG ok.x he) ?_;refine gc (rG ok.y he) ?_;refine gs (bX (.tmp rfl) rfl (by rw [XA,XO]; omega) (.tmp rfl) T38 rfl T69 rfl rfl (by simp only [XK,XM]; omega) rfl rfl) ?_;refine gD ?_ (11,0);refine gW (Wk.of (sl:=[(1,some (.ptr 1 0)),(2,some (.ptr 2 0)),(3,some (.ptr 3 0)),(31,some (.lst 4 (a.bs.map Pq.av))),(32,some (i64 a.bs.length)),(33,some (i64 i))]) (hp:=[(1,some (.box a.cs)),(2,some (.box [nS,nS,nS])),(3,some (.box [.lst 1 (a.ts.map nA),.ms 53 4 0 (i + 1),.lst 1 (a.ms.map i64)])),(53,some (.row 4 ((a.bs.take (i + 1)).map Pq.av)))]) aZ (.k (.k (.k (.cons rfl (BlkSub.of (by rw [dR hp,XQ]; rfl)) .nil))))) ?_ (11,0)
  refine gW (Wk.rk (k:=53) (d:=902) rfl rfl) ?_;refine ga aN ?_;exact aO J2 (i+1) hin
 have hin:=bc hi t34;subst hin;refine gW ((Wk.freeze (k:=902) rfl).trans<|Wk.of (sl:=[(2,some (.ptr 2 0)),(3,some (.ptr 3 0))]) (hp:=[(2,some (.box [nS,nS,nS])),(3,some (.box a.cs))]) aZ (.k (.cons rfl (BlkSub.bL (.cons (.refl _) (.cons (Sub.of (by rw[bJ (by simp)];simp)) (.cons (.refl _) .nil))) rfl) .nil))) ?_;refine af ?_;rfl
theorem WA{a:Aq}{g:Gr}{s:Sv}(hb:∀b∈g.bo,0<=b/\b<a.bs.length)(hl:s.ps.length=g.bo.length)(l1:a.bs.length<=100)(l2:a.ms.length<=100)(l3:g.bo.length<=100):FP 201 [a.av,g.av,s.av] (a.nxt g s).av:=by
 refine aj func201 ?_;refine gt (aH (Rf _ (OR _) (by rw[XA];omega)) (cB rfl) aI rfl rfl) ?_;refine gt (aH (HK _ (Ja _) (by rw[XA];omega)) (cB rfl) aI rfl rfl) ?_;refine gs (bX (.tmp rfl) rfl rfl (.tmp rfl) T39 rfl T3 rfl rfl (by simp only[XA,XK,XM];omega) rfl rfl) ?_;refine gD ?_ (2,0);refine gW ((Wk.freeze (k:=21) rfl).trans<|Wk.of (sl:=[(3,some (.ptr 3 0)),(4,some (.ptr 4 0)),(5,some (.ptr 5 0)),(6,some (.ptr 6 0)),(7,some (.ptr 7 0))]) (hp:=[(3,some (.box a.cs)),(4,some (.box g.av.cells)),(5,some (.box s.av.cells)),(6,some (.box [nS,nS,nS])),(7,some (.box [.lst 1 (s.ts.map nA),.ms 900 4 0 a.bs.length,.lst 1 ((a.ms++[s.mode]).map i64)])),(900,some (.row 4 ((a7 a.bs (g.bo.take 0) (s.ps.take 0)).map Pq.av)))]) aZ (.k (.k (.k (.k (.cons rfl (BlkSub.bL (.cons (.refl _) (.cons (Sub.of (congrArg (AV.ms 900 4 0) (XA _))) (.cons (Sub.of (by rw[bJ (by simp)];simp)) .nil))) rfl) (.k .nil))))))) ?_
 refine gl ?_;refine aW [3,4,5,6,7,24,25] [3,4,5,6,7] (fun(i:Nat)=>[(26,some (i64 i))]) (fun i=>[(900,some (.row 4 ((a7 a.bs (g.bo.take i) (s.ps.take i)).map Pq.av)))]) (fun i=>i<=g.bo.length) (fun i=>g.bo.length-i) 0 (XJ _) ?_;rintro i hi K1 J1;refine gC (fun t27=>?_) (fun t27=>?_) (st2:=(7,0))
 ·have hin:=a6 t27;obtain⟨b,hbi⟩:=aw hin;obtain⟨p,hp⟩:=aw (l:=s.ps) (i:=i) oz;obtain⟨hb0,hb1⟩:=hb b (Xx hbi);have hpl:=vZ a.bs (g.bo.take i) (s.ps.take i);obtain⟨o,ho⟩:=aw (l:=a7 a.bs (g.bo.take i) (s.ps.take i)) (i:=b.toNat) oz;refine gi (aE hbi) ?_;refine gi (aE hp) ?_;refine gs (lW (.tmp rfl) (.tmp rfl) T38 rfl T69 rfl oz oz rfl) ?_;refine gs (dT (.tmp rfl) rfl (by rw[Nat.zero_add,XE,ho];rfl) rfl (.tmp rfl) rfl rfl T69 rfl rfl) ?_;refine gD ?_;refine ga aN ?_;exact aO J1 (i+1) hin (hw:=Wk.of aZ (.cons rfl (BlkSub.of (by rw[LI hbi hp,Yg,Nat.zero_add];rfl)) (.k (.k (.k (.k (.k .nil)))))))
 have hin:=bc hi t27;subst hin;refine gW ((Wk.freeze (k:=900) rfl).trans<|Wk.of (sl:=[(6,some (.ptr 6 0)),(7,some (.ptr 7 0))]) (hp:=[(6,some (.box [nS,nS,nS])),(7,some (.box (a.nxt g s).cs))]) aZ (.k (.cons rfl (BlkSub.bL (.cons (.refl _) (.cons (Sub.of (by rw[bJ (by rw[XA,vZ])];rw[XP,XR oz];rfl)) (.cons (.refl _) .nil))) rfl) .nil))) ?_;refine af ?_;rfl
abbrev ft(l:Li)(xs:List Tn)(G:List Gr)(fo:FuncId)(caps:List AV)(sg:Bool)(o:AV):List AV:=l.av.cells++[.lst 4 (xs.map Tn.av),.lst 4 (G.map Gr.av),.cl fo [] caps,bl sg,o]
abbrev fa(l:Li)(xs:List Tn)(G:List Gr)(fo:FuncId)(caps:List AV)(sg:Bool)(k:Nat)(es:List AV):Hp :=
  [(1000,some (.box (ft l xs G fo caps sg (.ms k 3 0 es.length)))),(k,some (.row 3 es))]
theorem wz{k k0:Nat}{x y:Option Blk}{z:Blk}(h0:1000<=k0)(h:lk [(1000,x),(k0,y)] k=some z):1000<=k:=by
 rw[aT]at h;split at h
 ·omega
 ·rw[aT]at h;split at h
  ·omega
  ·cases h
theorem Q9{l:Li}{xs:List Tn}{G:List Gr}{fo:FuncId}{caps:List AV}{sg:Bool}{es:List AV}{g:Gr}(hd:g.kind=0->0<=g.driver/\g.driver<xs.length)(hl:xs.length<=100) :
  Con prog 200 [.ptr 1000 0,g.av] (fa l xs G fo caps sg 1001 es) (cz g xs).av (fa l xs G fo caps sg 1001 es):=by
 refine gF func200 (fun k z h=>wz oz h) ?_;refine gC (fun t7=>?_) (fun t7=>?_)
 ·have hk : g.kind ≠ 0 := by simpa [aa] using t7
  refine gR ?_;exact(az.keep (lU rfl rfl)).sub (by unfold cz;rw[Yk hk];exact Sub.agg (.cons (.refl _) (.cons (Sub.nil _ _ _) (.cons (Sub.nil _ _ _) (.cons (.refl _) .nil)))) rfl)
 have hk:g.kind=0:=by simpa[aa]using t7
 obtain⟨h0,h1⟩:=hd hk;obtain⟨x,hx⟩:=aw (l:=xs) (i:=g.driver.toNat) oz;refine gi (f6 (n:=g.driver.toNat) oz hx) ?_;refine gD ?_;refine gR ?_;exact(az.keep (lU rfl rfl)).sub (by unfold cz;rw[Yl hk,aq hx];exact .refl _)
theorem TJ:kC (.agg [nS,nS,nS,nS]) bb.av:=by
 refine⟨rfl,?_⟩;intro j x y hx hy
 match j,hx,hy with
 |0,hx,hy=>cases hx;cases hy;exact⟨rfl,.nil _ _ _⟩
 |1,hx,hy=>cases hx;cases hy;exact⟨rfl,.nil _ _ _⟩
 |2,hx,hy=>cases hx;cases hy;exact⟨rfl,.nil _ _ _⟩
 |3,hx,hy=>cases hx;cases hy;exact⟨rfl,.nil _ _ _⟩
theorem Te(n:Nat):BlkSub (.row 4 (List.replicate n (.agg [nS,nS,nS,nS]))) (.row 4 ((List.replicate n bb).map Pq.av)):=by
 refine .row (by simp) ?_;intro i e e' he he';rw[Yc,X1]at he';rw[X1]at he;split at he
 ·rename_i h;rw[Yl h]at he';cases he;cases he'
  exact TJ
 ·cases he
theorem Kt:kc.av=.agg [nA (sh 0 (((1:Int):Rat):Rat)),nA [],nA [],nA []]:=by
 have h:sh 0 (((1:Int):Rat):Rat)=[1]:=by decide +kernel
 rw[h];rfl
theorem U0{l:Li}{xs:List Tn}{G:List Gr}{fo:FuncId}{caps:List AV}{sg:Bool}{es:List AV}(h0:0<l.bo.length)(hl:l.bo.length<=100) :
  Con prog 101 [.ptr 1000 0] (fa l xs G fo caps sg 1001 es) (eO l).av (fa l xs G fo caps sg 1001 es):=by
 refine gF func101 (fun k z h=>wz oz h) ?_;refine gl ?_;refine gs (gV (.tmp rfl) T38 rfl T69 rfl rfl oz (by dsimp only;omega) rfl) ?_ (2,0);refine gW (Wk.of (sl:=[(2,some (.ptr 2 0)),(3,some (.ptr 3 0))]) (hp:=[(2,some (.box [nS,nS,nS])),(3,some (.box [nS,.ms 10 4 0 l.bo.length,nS])),(10,some (.row 4 ((List.replicate l.bo.length bb).map Pq.av))),(1000,some (.box (ft l xs G fo caps sg (.ms 1001 3 0 es.length)))),(1001,some (.row 3 es))]) aZ (.k (.k (.cons rfl (Te _) (.k (.k .nil)))))) ?_;refine gc (kA 1 oz) ?_;refine gc (lT (q:=((1:Int):Rat)) (Qb.one.qs oz)) ?_;refine gs (b8 (n:=0) (.tmp rfl) (.const _) T38 rfl T69 rfl oz oz rfl) ?_ (2,7);refine gs (Jg (e:=bb.av) (e':=.agg [nA (sh 0 (((1:Int):Rat):Rat)),nA [],nA [],nA []]) (.tmp rfl) rfl (by rw[XE,X1,Yl h0];rfl) (.tmp rfl) rfl rfl T67 rfl rfl rfl) ?_;refine gD ?_ (3,0);refine gW ((Wk.freeze (k:=10) rfl).trans<|Wk.of (sl:=[(2,some (.ptr 2 0)),(3,some (.ptr 3 0))]) (hp:=[(2,some (.box [nS,nS,nS])),(3,some (.box [nS,.lst 4 ((eO l).bs.map Pq.av),nS])),(1000,some (.box (ft l xs G fo caps sg (.ms 1001 3 0 es.length)))),(1001,some (.row 3 es))]) aZ (.k (.cons rfl (BlkSub.bL (.cons (.refl _) (.cons (Sub.of (by rw[bJ (by simp)];unfold eO;rw[Yg,Kt])) (.cons (.refl _) .nil))) rfl) (.k (.k .nil))))) ?_
 refine gR ?_;exact(az.keep (lU rfl rfl)).sub (Sub.agg (.cons (Sub.nil _ _ _) (.cons (.refl _) (.cons (Sub.nil _ _ _) .nil))) rfl)
theorem SK(k m:Int):FP 198 [i64 k,i64 m] (bl true):=by
 refine aj func198 ?_;refine af ?_;rfl
theorem Qr{modes:List Int}{k:Nat}(hk:k<modes.length)(hl:modes.length<=100)(m:Int):FP 223 [i64 k,i64 m,.iptr [.lst 1 (modes.map i64)]] (bl (decide (m=modes.getD k 0))):=by
 obtain⟨x,hx⟩:=aw hk;refine aj func223 ?_;refine gi (aE hx) ?_;refine gR ?_;exact dF (Sub.of (by rw[aq hx,oT];rfl))
def sS(l:Li)(xs:List Tn):Nat:=if splitE l≠0 then splitE l else if xs.length≠l.dv.length then 10 else eD (xs.map Tn.err)
def cJ(l:Li)(xs:List Tn):Nat:=if aA l≠0 then aA l else sS l xs
def rA(e:Nat)(l:Li)(xs:List Tn):Hp:=if e=0 then[(900,some (.box (ft l xs (splitG l) 198 [] false (nS))))]else[]
theorem wV{e:Nat}(h:e≠0){l:Li}{xs:List Tn}:rA e l xs=[]:=Yk h
theorem Lo{l:Li}{xs:List Tn}{e:Nat}(he:(if aA l=0 then splitE l else aA l)=e)(h:e≠0):cJ l xs=e:=by
 unfold cJ sS
 by_cases h1:aA l=0
 ·rw[Yl h1]at he;rw[Yk oz,Yl oz,he]
 ·rw[Yk h1]at he;rw[Yl h1,he]
theorem Gb{l:Li}{xs:List Tn}(h:aA l=0)(hs:splitE l=0):cJ l xs=if xs.length≠l.dv.length then 10 else eD (xs.map Tn.err):=by
 unfold cJ sS;rw[Yk oz,Yk oz]
theorem Dk(l:Li)(hl:l.ok)(xs:List Tn)(hx:∀x∈xs,x.t.ok)(hn:xs.length<=100) :
  Con prog 99 [l.av,.lst 4 (xs.map Tn.av)] [] (.tup [pq (cJ l xs),br (cJ l xs)]) (rA (cJ l xs) l xs):=by
 have hld:=hl.ld;refine gF func99 (fun k z h=>by cases h) ?_;refine gc (Aj l hl) ?_;refine gC (fun t17=>?_) (fun t17=>?_)
 ·have h1:=cU t17;refine gR ?_;rw[Lo rfl h1,lL h1,wV h1];exact kl rfl
 have h1:=cS t17;obtain⟨hli,hsp⟩:=It h1;rw[show(if aA l=0 then splitG l else[])=splitG l from Yl hli];refine gl ?_;refine gl ?_;refine gC (fun t24=>?_) (fun t24=>?_)
 ·have h2:=w7 t24;have he:cJ l xs = 10:=by rw [Gb hli hsp,Yl h2]
  refine gR ?_;rw[he,lL (by decide),wV (by decide)];exact kl rfl
 have h2:=Ah t24;have he0:cJ l xs=eD (xs.map Tn.err):=by rw[Gb hli hsp,Yk oz]
 refine gl ?_;refine aW [1,2,6,26,27] [2] (fun(i:Nat)=>[(28,some (i64 i))]) (fun _=>[]) (fun i=>i<=xs.length/\∀y∈xs.take i,y.err=0) (fun i=>xs.length-i) 0 ⟨XJ _,fun y hy=>by simp at hy⟩ ?_;rintro i ⟨hi,hz⟩ K1 J1;refine gC (fun t29=>?_) (fun t29=>?_) (st2:=(13,0))
 ·have hin:=a6 t29;obtain⟨x,hxi⟩:=aw hin;refine gi (aE hxi) ?_;refine gc (tB x (hx x (Xx hxi))) ?_;refine gC (fun t35=>?_) (fun t35=>?_)
  ·have h3:=cU t35;have he:cJ l xs = x.err:=by rw [he0]; exact AY hxi hz h3
   refine gR ?_;rw[he,lL h3,wV h3];exact kl rfl
  have h3:=cS t35;refine ga aN ?_;exact aO J1 (i+1) ⟨hin,fun z hz2=>by rw[dR hxi]at hz2;rcases List.mem_append.1 hz2 with h9 |h9;exact hz z h9;(rw[List.mem_singleton.1 h9];exact h3)⟩
 have hin:=bc hi t29;have he:cJ l xs=0:=by rw[he0];exact o5 (fun y hy=>hz y (by rw[hin,XP];exact hy))
 refine gW (Wk.o (sl:=[(1,some (.lst 4 (xs.map Tn.av))),(2,some (.ptr 2 0)),(6,some (.lst 4 ((splitG l).map Gr.av)))]) (hp:=[(2,some (.box l.av.cells))])) ?_ (77777,0);refine gW (Wk.of (sl:=[(4,some (.ptr 42 0)),(5,some (.v .nilIface))]) (hp:=[(42,some (.box (ft l xs (splitG l) 198 [] false (nS))))]) aZ (.cons rfl (BlkSub.bL (.cons (.refl _) (.cons (.refl _) (.cons (.refl _) (.cons (.refl _) (.cons (.refl _) (.cons (.refl _) (.cons ((Sub.fn0 _).trans (sW rfl)) (.cons (.refl _) (.cons (.refl _) .nil))))))))) rfl) .nil)) ?_ (77777,0);refine gW (Wk.rk (k:=42) (d:=900) rfl rfl) ?_;refine gR ?_;rw[he];exact az.keep (bj rfl)
section
variable{P:Program}{N:Nat}{R:Array Oper}{s:AS}{pos:String}{after:Array Edge}
theorem ya{d f k k2:Nat}{bx bx2:Blk}{args:Array Operand}{ts:Array TypeId}{xs:List AV}{r:AV}{t:TypeId}
  (hcon:Con P f xs [(k,some bx),(k2,some bx2)] r [(k,some bx),(k2,some bx2)]) (ha:EvL s args.toList xs) (hne:Nat.beq k2 k=false) (hk:s.blk k=some bx) (hk2:s.blk k2=some bx2)
  (hok:iA s [(k,some bx),(k2,some bx2)] [(k,some bx),(k2,some bx2)] r=true) (hN:Nat.blt d N=true) :
  Step P N R s ⟨some d,.call ⟨.value (.func f),args,ts⟩,t,pos,after,none⟩ ⟨some r,[],eG args.toList,[k,k2]⟩:=by
 have hne':k2≠k:=fun e=>by rw[e,Nat.beq_refl]at hne;cases hne
 refine Step.weaken (aH (d:=d) hcon ha (fun k' z h=>by
  rcases nN h with⟨rfl,h9⟩ |⟨_,rfl,h9⟩
  ·cases h9;exact hk
  ·cases h9;exact hk2) hok hN) (fun s' h=>h) (fun s' h k' hk'=>?_) (fun s' h=>?_)
 ·left;simp only[XQ,dp,Yi,map_nil,mem_append,X6,XV,or_false]at hk' ⊢;rcases hk' with h9 |h9 <;> exact h9
 ·intro C m a w hr;refine ⟨m,hr.weak (fun t x hx=>⟨x,hx,.refl _⟩) (fun k' x hx=>⟨x,?_,.refl _⟩)⟩;have hb:lk s'.hp k = some bx:=(h.2 k (by simp)).trans hk;have hb2:lk s'.hp k2 = some bx2:=(h.2 k2 (by simp)).trans hk2;show lk ([(k,some bx),(k2,some bx2)] ++ dp [(k,some bx),(k2,some bx2)] ++ s'.hp) k' = some x;have hx':lk s'.hp k' = some x:=hx;simp only [dp,Yi,map_nil,List.cons_append,nil_append,aT]
  by_cases e:k'=k
  ·rw[Yl e];rw[e,hb]at hx';exact hx'
  ·rw[Yk e]
   by_cases e2:k'=k2
   ·rw[Yl e2];rw[e2,hb2]at hx';exact hx'
   ·rw[Yk e2,Yk e,Yk e2];exact hx'
end
def pO(k:Nat):Nat:=bif Nat.beq k 1001 then 901 else bif Nat.beq k 901 then 1001 else k
theorem Xh(k:Nat):pO (pO k)=k:=by
 by_cases h1:k=1001
 ·subst h1;rfl
 ·by_cases h2:k=901
  ·subst h2;rfl
  ·have nb:∀{a b:Nat},a≠b->Nat.beq a b=false:=fun h=>by
    cases h9:Nat.beq _ _ with
    |false=>rfl
    |true=>exact absurd (XG h9) h
   have e:pO k=k:=by simp only[pO,nb h1,nb h2,cond_false]
   rw[e,e]
theorem L7{l:Li}{xs:List Tn}{G:List Gr}{fo:FuncId}{caps:List AV}{sg:Bool}{es es':List AV}{a:Aq}{e:Nat}
  (h:Con prog 100 [.ptr 1000 0,a.av] (fa l xs G fo caps sg 1001 es) (br e) (fa l xs G fo caps sg 900 es')) :
  Con prog 100 [.ptr 1000 0,a.av] (fa l xs G fo caps sg 901 es) (br e) (fa l xs G fo caps sg 900 es') :=
 Con.pm Xh h
theorem Sd{l:Li}{xs:List Tn}{G:List Gr}{fo:FuncId}{caps:List AV}{sg:Bool}{o:List Aq}{a:Aq}(hk:a.ms.length=G.length)(hG:G.length<=100)(ho:o.length<=1000)
  (hcl:FP 199 [a.av] a.av) :
  Con prog 100 [.ptr 1000 0,a.av] (fa l xs G fo caps sg 1001 (o.map Aq.av)) (br 0) (fa l xs G fo caps sg 900 ((o++[a]).map Aq.av)):=by
 refine gF func100 (fun k z h=>wz oz h) ?_;refine gl ?_;refine gl ?_;refine gC (fun t21=>?_) (fun t21=>?_) (st2:=(77777,0))
 ·refine gc hcl ?_;refine gs (bX (.tmp rfl) rfl (by rw [XA]) (.tmp rfl) T85 rfl T41 rfl rfl (by simp only [XA,XK,XM]; omega) rfl rfl) ?_;refine gD ?_ (4,0);refine gW (Wk.of (sl:=[(4,some (.v .nilIface))]) (hp:=[(1000,some (.box (ft l xs G fo caps sg (.ms 30 3 0 ((o ++ [a]).map Aq.av).length)))),(30,some (.row 3 ((o ++ [a]).map Aq.av)))]) aZ (.cons rfl (BlkSub.bL (.cons (.refl _) (.cons (.refl _) (.cons (.refl _) (.cons (.refl _) (.cons (.refl _) (.cons (.refl _) (.cons (.refl _) (.cons (.refl _) (.cons (Sub.of (by simp)) .nil))))))))) rfl) (.cons rfl (BlkSub.of (by rw [XQ]; rfl)) .nil))) ?_ (4,0)
  refine gW (Wk.rk (k:=30) (d:=900) rfl rfl) ?_;refine gR ?_;exact az.keep (lU rfl rfl)
 exact absurd t21 (by rw[hk];simp[aa])
theorem pJ(F:Int->Bool)(sg:Bool)(f:Sv->List Aq×Nat)(s:Sv)(r:List Sv) :
  fp F sg f (s::r)=if F s.mode=false then fp F sg f r else if(f s).2≠0 then f s else if sg=true then f s else((f s).1++(fp F sg f r).1,(fp F sg f r).2):=rfl
theorem sK{α:Type}{l:List α}{i:Nat}{x:α}(h:l[i]?=some x):l.drop i=x::l.drop (i+1):=by
 obtain⟨hi,e⟩:=List.getElem?_eq_some_iff.1 h;rw[List.drop_eq_getElem_cons hi,e]
def pE(F:Int->Bool)(sg:Bool)(f:Sv->List Aq×Nat)(S:List Sv)(i:Nat)(c:List Aq):Prop :=
  i<=S.length/\fp F sg f S=(c++(fp F sg f (S.drop i)).1,(fp F sg f (S.drop i)).2)
theorem L0(F:Int->Bool)(sg:Bool)(f:Sv->List Aq×Nat)(S:List Sv):pE F sg f S 0 []:=⟨XJ _,rfl⟩
section
variable{F:Int->Bool}{sg:Bool}{f:Sv->List Aq×Nat}{S:List Sv}{i:Nat}{c:List Aq}(h:pE F sg f S i c){s:Sv}(hs:S[i]?=some s)
include h hs
theorem Nt(hF:F s.mode=false):pE F sg f S (i+1) c:=by
 have h2:=h.2;rw[sK hs,pJ,Yl hF]at h2;exact⟨(List.getElem?_eq_some_iff.1 hs).1,h2⟩
theorem MS(hF:F s.mode=true)(he:(f s).2≠0):fp F sg f S=(c++(f s).1,(f s).2):=by
 have h2:=h.2;rw[sK hs,pJ,Yk (by rw[hF];simp),Yl he]at h2;exact h2
theorem LX(hF:F s.mode=true)(he:(f s).2=0)(h1:sg=true):fp F sg f S=(c++(f s).1,0):=by
 have h2:=h.2;rw[sK hs,pJ,Yk (by rw[hF];simp),Yk oz,Yl h1,he]at h2;exact h2
theorem Rs(hF:F s.mode=true)(he:(f s).2=0)(h1:sg=false):pE F sg f S (i+1) (c++(f s).1):=by
 have h2:=h.2;rw[sK hs,pJ,Yk (by rw[hF];simp),Yk oz,Yk (by rw[h1];simp)]at h2;exact⟨(List.getElem?_eq_some_iff.1 hs).1,by rw[h2,Ye]⟩
end
theorem Xr{F:Int->Bool}{sg:Bool}{f:Sv->List Aq×Nat}{S:List Sv}{c:List Aq}(h:pE F sg f S S.length c):fp F sg f S=(c,0):=by
 have h2:=h.2;rw[List.drop_length]at h2;rw[h2];simp[fp]
theorem Se{l:Li}{xs:List Tn}{G:List Gr}{fo:FuncId}{caps:List AV}{sg:Bool}{o:List Aq}{a:Aq}{g:Gr}(hg:G[a.ms.length]?=some g)(hG:G.length<=100)(hx:xs.length<=100)(hd:g.kind=0->0<=g.driver/\g.driver<xs.length)
  {S:List Sv} {E:Nat} (hS:FP 18 [l.av,i64 a.ms.length,(cz g xs).av,a.av] (.tup [.lst 3 (S.map Sv.av),br E])) (hSl:S.length<=100)
  {F:Int->Bool} (hF:∀m,FP fo ([i64 a.ms.length,i64 m]++caps) (bl (F m)))
  (hb:∀s∈S,FP 201 [a.av,g.av,s.av] (a.nxt g s).av)
  {f:Sv->List Aq×Nat} {M B:Nat} (hM:∀s∈S,(f s).1.length<=M) (hB:o.length+S.length*M<=B) (ih:∀(o:List Aq),o.length+M<=B->∀s∈S,Con prog 100 [.ptr 1000 0,(a.nxt g s).av] (fa l xs G fo caps sg 1001 (o.map Aq.av)) (br (f s).2) (fa l xs G fo caps sg 900 ((o++(f s).1).map Aq.av))) :
  Con prog 100 [.ptr 1000 0,a.av] (fa l xs G fo caps sg 1001 (o.map Aq.av)) (br (if E≠0 then E else(fp F sg f S).2)) (fa l xs G fo caps sg 900 ((o++(if E≠0 then[]else(fp F sg f S).1)).map Aq.av)):=by
 have hkG:=(List.getElem?_eq_some_iff.1 hg).1;refine gF func100 (fun k z h=>wz oz h) ?_;refine gl ?_;refine gl ?_;refine gC (fun t21=>?_) (fun t21=>?_) (st1:=(3,0));exact absurd t21 (by simp[aa];omega);refine gi (aE hg) ?_;refine gt (ya (Q9 hd hx) (bB rfl rfl) rfl rfl rfl rfl rfl) ?_;refine gc hS ?_;refine gD ?_;refine gC (fun t54=>?_) (fun t54=>?_) (st1:=(8,0)) (st2:=(77777,0))
 ·have hE:=cU t54;refine gW (Wk.o (sl:=[(4,some (.v .nilIface)),(8,some (br E))]) (hp:=[(1000,some (.box (ft l xs G fo caps sg (.ms 1001 3 0 (o.map Aq.av).length)))),(1001,some (.row 3 (o.map Aq.av)))])) ?_ (8,0);refine gW (Wk.rk (k:=1001) (d:=900) rfl rfl) ?_;refine gR ?_;rw[Yl hE,Yl hE,append_nil];exact az.keep (lU rfl rfl)
 have hE:=cS t54;refine gW (Wk.of (sl:=[(0,some (.ptr 1000 0)),(3,some (.ptr 3 0)),(5,some (i64 a.ms.length)),(6,some (.ptr 6 0)),(7,some (.lst 3 (S.map Sv.av)))]) (hp:=[(3,some (.box a.cs)),(6,some (.box g.av.cells)),(1000,some (.box (ft l xs G fo caps sg (.ms 1001 3 0 ((o++[]).map Aq.av).length)))),(1001,some (.row 3 ((o++[]).map Aq.av)))]) aZ (.k (.k (.cons rfl (BlkSub.bL (.cons (.refl _) (.cons (.refl _) (.cons (.refl _) (.cons (.refl _) (.cons (.refl _) (.cons (.refl _) (.cons (.refl _) (.cons (.refl _) (.cons (Sub.of (by simp)) .nil))))))))) rfl) (.cons rfl (BlkSub.of (by rw[append_nil])) .nil))))) ?_ (77777,0)
 refine gW (Wk.rk (k:=1001) (d:=901) rfl rfl) ?_;refine gl ?_;refine gz [0,3,5,6,56,57] [3,6] (fun(i:Nat)(c:List Aq)=>[(58,some (i64 i))]) (fun _ c=>[(1000,some (.box (ft l xs G fo caps sg (.ms 901 3 0 ((o++c).map Aq.av).length)))),(901,some (.row 3 ((o++c).map Aq.av)))]) (fun i c=>pE F sg f S i c/\c.length<=i*M) (fun i _=>S.length-i) 0 ([]) ⟨L0 F sg f S,XJ _⟩ ?_;rintro i c ⟨hfo,hcl⟩ K1 J1;refine gC (fun t59=>?_) (fun t59=>?_) (st2:=(19,0))
 ·have hin:=a6 t59;obtain⟨s,hs⟩:=aw hin;have hsm:=Xx hs;have hfl:=hM s hsm;have hmul:(i+1)*M=i*M+M:=Nat.succ_mul i M;have hmul2:(i+1)*M<=S.length*M:=XY M hin;refine gi (aE hs) ?_;refine gc (hF s.mode) ?_;refine gD ?_;refine gC (fun t70=>?_) (fun t70=>?_) (st2:=(77777,0))
  ·have hFm : F s.mode = false := by simpa using t70
   refine ga aN ?_;exact fU J1 (i+1) c ⟨Nt hfo hs hFm,by omega⟩
  have hFm:F s.mode=true:=by simpa using t70
  refine gW (Wk.o (sl:=[(0,some (.ptr 1000 0)),(3,some (.ptr 3 0)),(5,some (i64 a.ms.length)),(6,some (.ptr 6 0)),(10,some (.ptr 10 0)),(56,some (.lst 3 (S.map Sv.av))),(57,some (i64 S.length)),(58,some (i64 i))]) (hp:=[(3,some (.box a.cs)),(6,some (.box g.av.cells)),(10,some (.box s.av.cells)),(1000,some (.box (ft l xs G fo caps sg (.ms 901 3 0 ((o++c).map Aq.av).length)))),(901,some (.row 3 ((o++c).map Aq.av)))])) ?_
  refine gc (hb s hsm) ?_;refine gt (aH (L7 (ih (o++c) (by rw[XZ];omega) s hsm)) (bB rfl rfl) aI rfl rfl) ?_;refine gC (fun t78=>?_) (fun t78=>?_)
  ·have he:(f s).2≠0:=cU t78;have hR:=MS hfo hs hFm he;refine gR ?_;rw[Yk oz,Yk oz,hR,<- Ye];exact az.keep (lU rfl rfl)
  have he:(f s).2=0:=cS t78;refine gC (fun t83=>?_) (fun t83=>?_) (st2:=(77777,0))
  ·have h1 : sg = true := by simpa using t83
   have hR:=LX hfo hs hFm he h1;refine gR ?_;rw[Yk oz,Yk oz,hR,<- Ye];exact az.keep (lU rfl rfl)
  have h1:sg=false:=by simpa using t83
  refine gW (Wk.of (sl:=[(0,some (.ptr 1000 0)),(3,some (.ptr 3 0)),(5,some (i64 a.ms.length)),(6,some (.ptr 6 0)),(56,some (.lst 3 (S.map Sv.av))),(57,some (i64 S.length)),(58,some (i64 i))]) (hp:=[(3,some (.box a.cs)),(6,some (.box g.av.cells)),(1000,some (.box (ft l xs G fo caps sg (.ms 900 3 0 ((o++(c++(f s).1)).map Aq.av).length)))),(900,some (.row 3 ((o++(c++(f s).1)).map Aq.av)))]) aZ (.k (.k (.cons rfl (BlkSub.bL (.cons (.refl _) (.cons (.refl _) (.cons (.refl _) (.cons (.refl _) (.cons (.refl _) (.cons (.refl _) (.cons (.refl _) (.cons (.refl _) (.cons (Sub.of (by rw[Ye])) .nil))))))))) rfl) (.cons rfl (BlkSub.of (by rw[Ye])) .nil))))) ?_ (77777,0)
  refine gW (Wk.rk (k:=900) (d:=901) rfl rfl) ?_;refine ga aN ?_;exact fU J1 (i+1) (c++(f s).1) ⟨Rs hfo hs hFm he h1,by rw[XZ];omega⟩
 have hin:=bc hfo.1 t59;subst hin;have hR:=Xr hfo;refine gW (Wk.o (sl:=[]) (hp:=[(1000,some (.box (ft l xs G fo caps sg (.ms 901 3 0 ((o++c).map Aq.av).length)))),(901,some (.row 3 ((o++c).map Aq.av)))])) ?_ (19,0);refine gW (Wk.rk (k:=901) (d:=900) rfl rfl) ?_;refine gR ?_;rw[Yk oz,Yk oz,hR];exact az.keep (lU rfl rfl)
variable{P:Program}{N:Nat}{R:Array Oper}{s:AS}{pos:String}{after:Array Edge}
end Go.Lw
namespace Go.Lw
open Go.Proofs
theorem qk(i:Int)(n:Nat):FP 227 [i64 i,i64 n] (bl (bu i n)):=by
 refine aj func227 ?_;refine af ?_;exact congrArg bl (HN i n)
theorem LG(p q:Mk)(hp:p.ok)(hq:q.ok):FP 228 [p.av,q.av] (bl (decide (p.x.q=q.x.q/\p.y.q=q.y.q))):=by
 refine aj func228 ?_;refine gc (Dh p.x q.x hp.x hq.x ((hp.qx.sub hq.qx).qs oz)) ?_;refine b7 (fun _=>(Dh p.y q.y hp.y hq.y ((hp.qy.sub hq.qy).qs oz))) ?_;refine af ?_;exact congrArg bl Mn
theorem V8(b:Bd)(hbo:b.ok):FP 226 [b.av] (i64 (if 8<b.pts.length then 4 else fh b.pts.length (dC b.pts):Nat)):=by
 have hll:=hbo.ll;refine aj func226 ?_;refine gl ?_;refine gC (fun t9=>?_) (fun t9=>?_)
 ·have h0:8<b.pts.length:=jI t9;refine af ?_;rw[Yl h0];rfl
 have h0:b.pts.length<=8:=gX t9;have e0:(if 8<b.pts.length then 4 else fh b.pts.length (dC b.pts):Nat)=fh b.pts.length (dC b.pts):=Yk oz;refine aW [1] [1] (fun(p:Nat)=>[(3,some (i64 p))]) (fun _=>[]) (fun p=>p<=b.pts.length/\∀j,j<p->dC b.pts j=0) (fun p=>b.pts.length-p) 0 ⟨XJ _,fun j h=>by omega⟩ ?_;rintro p ⟨hp,hpj⟩ K1 J1;refine gl ?_;refine gC (fun t14=>?_) (fun t14=>?_)
 ·have hpn:=a6 t14;obtain⟨m,hm⟩:=aw hpn;have hmd:b.pts.getD p default=m:=aq hm;have hmm:=Xx hm;have hmdup:=nH Mk.name hm;have hmo:=hbo.pts m hmm;refine gi (aE hm) ?_;refine gc (sL m.name (hbo.names m hmm)) ?_;refine gC (fun t25=>?_) (fun t25=>?_)
  ·have h4:=dg t25;have e2:dC b.pts p = 5:=by unfold dC; rw [hmd,Yl h4]
   refine af ?_;rw[e0,en hpn hpj (by rw[e2];decide),e2];rfl
  have h4:=da t25;refine aW [1,3,4] [1,4] (fun(q:Nat)=>[(5,some (i64 q))]) (fun _=>[]) (fun q=>q<=p/\(b.pts.take q).any (fun y=>dS y.name m.name)=false) (fun q=>p-q) 0 ⟨XJ _,rfl⟩ ?_;rintro q ⟨hq,hqd⟩ K2 J2;refine gC (fun t28=>?_) (fun t28=>?_)
  ·have hqn:=a6 t28;obtain⟨y,hy⟩:∃y,b.pts[q]?=some y:=aw oz;refine gi (aE hy) ?_;refine gD ?_;refine gC (fun t39=>?_) (fun t39=>?_)
   ·have h5:dS y.name m.name = true:=t39;have e2:dC b.pts p = 6:=by unfold dC; rw [hmd,Yk (by rw [h4]; decide),Yl (by rw [hmdup]; exact lB hy hqn h5)]
    refine af ?_;rw[e0,en hpn hpj (by rw[e2];decide),e2];rfl
   have h5:dS y.name m.name=false:=t39;refine ga aN ?_;exact aO J2 (q+1) ⟨hqn,kG hy hqd h5⟩
  have hqn:=bc hq t28;subst hqn;have hmnd:¬gE (b.pts.map Mk.name) q=true:=by rw[hmdup,hqd];decide
  refine gc (BC m.x hmo.x) ?_;refine b7 (fun _=>(BC m.y hmo.y)) ?_;refine gC (fun t49=>?_) (fun t49=>?_)
  ·have h6:=oU t49;have e2:dC b.pts q = 3:=by unfold dC; rw [hmd,Yk (by rw [h4]; decide),Yk hmnd,Yk (by rintro ⟨g1,g2⟩; rcases h6 with g | g; (rw [g1] at g; cases g); (rw [g2] at g; cases g))]
   refine af ?_;rw[e0,en hpn hpj (by rw[e2];decide),e2];rfl
  have h6:=od t49;have e2:dC b.pts q=0:=by unfold dC;rw[hmd,Yk (by rw[h4];decide),Yk hmnd,Yl h6]
  refine ga aN ?_;exact aO J1 (q+1) ⟨hpn,fun j h9=>by rcases XH j q with g |g;exact hpj j g;(have:j=q:=by omega);subst this;exact e2⟩
 have hpn:=bc hp t14;subst hpn;refine af ?_;rw[e0,kU hpj];rfl
theorem Uq(l:Li)(hl:l.ok):FP 112 [l.av] (i64 (fQ l)):=by
 have hlb:=hl.lb;have e0:fQ l=fh l.bo.length (dG l.bo):=rfl;refine aj func112 ?_;refine aW [1] [1] (fun(i:Nat)=>[(3,some (i64 i))]) (fun _=>[]) (fun i=>i<=l.bo.length/\∀j,j<i->dG l.bo j=0) (fun i=>l.bo.length-i) 0 ⟨XJ _,fun j h=>by omega⟩ ?_;rintro i ⟨hi,hj⟩ K1 J1;refine gl ?_;refine gC (fun t10=>?_) (fun t10=>?_)
 ·have hin:=a6 t10;obtain⟨b,hb⟩:=aw hin;have hbd:l.bo.getD i default=b:=aq hb;have hbo:=hl.bo b (Xx hb);have hbdup:=nH Bd.name hb;refine gi (aE hb) ?_;refine gc (sL b.name hbo.name) ?_;refine gC (fun t20=>?_) (fun t20=>?_)
  ·have h1:=dg t20;have e1:dG l.bo i = 5:=by unfold dG; rw [hbd,Yl h1]
   refine af ?_;rw[e0,en hin hj (by rw[e1];decide),e1];rfl
  have h1:=da t20;refine aW [1,3] [1] (fun(k:Nat)=>[(4,some (i64 k))]) (fun _=>[]) (fun k=>k<=i/\(l.bo.take k).any (fun y=>dS y.name b.name)=false) (fun k=>i-k) 0 ⟨XJ _,rfl⟩ ?_;rintro k ⟨hk,hd⟩ K2 J2;refine gC (fun t23=>?_) (fun t23=>?_)
  ·have hkn:=a6 t23;obtain⟨y,hy⟩:∃y,l.bo[k]?=some y:=aw oz;refine gi (aE hy) ?_;refine gi (aE hb) ?_;refine gD ?_;refine gC (fun t38=>?_) (fun t38=>?_)
   ·have h2:dS y.name b.name = true:=t38;have e1:dG l.bo i = 6:=by unfold dG; rw [hbd,Yk (by rw [h1]; decide),Yl (by rw [hbdup]; exact lB hy hkn h2)]
    refine af ?_;rw[e0,en hin hj (by rw[e1];decide),e1];rfl
   have h2:dS y.name b.name=false:=t38;refine ga aN ?_;exact aO J2 (k+1) ⟨hkn,kG hy hd h2⟩
  have hkn:=bc hk t23;subst hkn;have hnd:¬gE (l.bo.map Bd.name) k=true:=by rw[hbdup,hd];decide
  have e1:dG l.bo k=if 8<b.pts.length then 4 else fh b.pts.length (dC b.pts):=by unfold dG;rw[hbd,Yk (by rw[h1];decide),Yk hnd]
  refine gi (aE hb) ?_;refine gc (V8 b hbo) ?_;refine gC (fun t46=>?_) (fun t46=>?_)
  ·have h3:=sZ t46;refine af ?_;rw[e0,en hin hj (by rw[e1];exact h3),e1]
  have h3:=qG t46;refine ga aN ?_;exact aO J1 (k+1) ⟨hin,fun j h9=>by rcases XH j k with g |g;exact hj j g;(have:j=k:=by omega);subst this;exact e1.trans h3⟩
 have hin:=bc hi t10;subst hin;refine af ?_;rw[e0,kU hj];rfl
theorem Rm(l:Li)(hl:l.ok)(i:Nat)(hi:i<l.jo.length)(h16:l.jo.length<=16):FP 113 [l.av,i64 i] (i64 (fK l i)):=by
 obtain⟨j,hjj⟩:=aw hi;have hbd:l.jo.getD i default=j:=aq hjj;have hbdup:=nH Jt.name hjj;refine aj func113 ?_;refine gi (aE hjj) ?_;refine gc (sL j.name (hl.jnames j (Xx hjj))) ?_;refine gC (fun t17=>?_) (fun t17=>?_)
 ·have h0:=dg t17;refine af ?_;unfold fK;rw[hbd,Yl h0];rfl
 have h0:=da t17;refine aW [1,2,5] [2,5] (fun(k:Nat)=>[(6,some (i64 k))]) (fun _=>[]) (fun k=>k<=i/\(l.jo.take k).any (fun y=>dS y.name j.name)=false) (fun k=>i-k) 0 ⟨XJ _,rfl⟩ ?_;rintro k ⟨hk,hd⟩ K1 J1;refine gC (fun t20=>?_) (fun t20=>?_)
 ·have hkn:=a6 t20;obtain⟨y,hy⟩:∃y,l.jo[k]?=some y:=aw oz;refine gi (aE hy) ?_;refine gD ?_;refine gC (fun t31=>?_) (fun t31=>?_)
  ·have h2:dS y.name j.name=true:=t31;refine af ?_;unfold fK;rw[hbd,Yk (by rw[h0];decide),Yl (by rw[hbdup];exact lB hy hkn h2)];rfl
  have h2:dS y.name j.name=false:=t31;refine ga aN ?_;exact aO J1 (k+1) ⟨hkn,kG hy hd h2⟩
 have hkn:=bc hk t20;subst hkn;have hnd:¬gE (l.jo.map Jt.name) k=true:=by rw[hbdup,hd];decide
 have e1:fK l k=dN l j:=by unfold fK;rw[hbd,Yk (by rw[h0];decide),Yk hnd]
 refine gC (fun t39=>?_) (fun t39=>?_)
 ·have h1:=CT t39;refine af ?_;rw[e1];unfold dN;rw[Yl h1];rfl
 have h1:=Eo t39;refine gl ?_;refine gc (qk j.a l.bo.length) ?_;refine cQ ?_;refine b7 (fun _=>(qk j.b l.bo.length)) ?_;refine gC (fun t55=>?_) (fun t55=>?_)
 ·have h2:=oU t55;refine af ?_;rw[e1];unfold dN;rw[Yk h1,Yl h2];rfl
 have h2:=od t55;have h2n:¬(bu j.a l.bo.length=false\/bu j.b l.bo.length=false):=by rw[h2.1,h2.2];simp
 obtain⟨A,hA,pA,mA,zA0⟩:=qO h2.1;obtain⟨B,hB,pB,mB,zB0⟩:=qO h2.2;refine gC (fun t60=>?_) (fun t60=>?_)
 ·have h3:=cH t60;refine af ?_;rw[e1];unfold dN;rw[Yk h1,Yk h2n,Yl h3];rfl
 have h3:=dm t60;refine gi (aE hA) ?_;refine gi (aE hB) ?_;refine gD ?_;refine gl ?_;refine gc (qk j.point A.pts.length) ?_;refine cQ ?_;refine b7 (fun _=>(qk j.on B.pts.length)) ?_;refine gC (fun t88=>?_) (fun t88=>?_)
 ·have h4:=oU t88;refine af ?_;rw[e1];unfold dN;rw[Yk h1,Yk h2n,Yk h3,pA,pB,Yl h4];rfl
 have h4:=od t88;have h4n:¬(bu j.point A.pts.length=false\/bu j.on B.pts.length=false):=by rw[h4.1,h4.2];simp
 refine gC (fun t91=>?_) (fun t91=>?_)
 ·have h5:=cH t91;refine gC (fun t94=>?_) (fun t94=>?_)
  ·have h6:=mR t94;refine af ?_;rw[e1];unfold dN;rw[Yk h1,Yk h2n,Yk h3,pA,pB,Yk h4n,Yl h5,Yl h6];rfl
  have h6:=ui t94;refine af ?_;rw[e1];unfold dN;rw[Yk h1,Yk h2n,Yk h3,pA,pB,Yk h4n,Yl h5,Yk (by rw[h6];simp)];rfl
 have h5:=dm t91;refine gl ?_;refine gc (qk j.to B.pts.length) ?_;refine gC (fun t100=>?_) (fun t100=>?_)
 ·have h6:=dg t100;refine af ?_;rw[e1];unfold dN;rw[Yk h1,Yk h2n,Yk h3,pA,pB,Yk h4n,Yk h5,Yl h6];rfl
 have h6:=da t100;obtain⟨m1,g1,d1,mm1,z1⟩:=uu h4.2;obtain⟨m2,g2,d2,mm2,z2⟩:=uu h6;have mo1:=(hl.bo B mB).pts m1 mm1;have mo2:=(hl.bo B mB).pts m2 mm2;refine gi (aE g1) ?_;refine gi (aE g2) ?_;refine gc (LG m1 m2 mo1 mo2) ?_;refine gD ?_;refine gC (fun t111=>?_) (fun t111=>?_)
 ·have h7:=of_decide_eq_true t111;refine af ?_;rw[e1];unfold dN;rw[Yk h1,Yk h2n,Yk h3,pA,pB,Yk h4n,Yk h5,Yk (by rw[h6];decide),d1,d2,Yl h7];rfl
 have h7:=of_decide_eq_false t111;refine af ?_;rw[e1];unfold dN;rw[Yk h1,Yk h2n,Yk h3,pA,pB,Yk h4n,Yk h5,Yk (by rw[h6];decide),d1,d2,Yk h7];rfl
theorem VG(l:Li)(hl:l.ok)(i:Nat)(hi:i<l.dv.length)(h2l:l.dv.length<=2):FP 114 [l.av,i64 i] (i64 (dM l i)):=by
 obtain⟨b,hb⟩:=aw hi;have hbd:l.dv.getD i default=b:=aq hb;have hbdup:=nH Dr.name hb;refine aj func114 ?_;refine gi (aE hb) ?_;refine gc (sL b.name (hl.dnames b (Xx hb))) ?_;refine gC (fun t16=>?_) (fun t16=>?_)
 ·have h1:=dg t16;refine af ?_;unfold dM;rw[hbd,Yl h1];rfl
 have h1:=da t16;refine aW [1,2,5] [2,5] (fun(k:Nat)=>[(6,some (i64 k))]) (fun _=>[]) (fun k=>k<=i/\(l.dv.take k).any (fun y=>dS y.name b.name)=false) (fun k=>i-k) 0 ⟨XJ _,rfl⟩ ?_;rintro k ⟨hk,hd⟩ K1 J1;refine gC (fun t19=>?_) (fun t19=>?_)
 ·have hkn:=a6 t19;obtain⟨y,hy⟩:∃y,l.dv[k]?=some y:=aw oz;refine gi (aE hy) ?_;refine gD ?_;refine gC (fun t30=>?_) (fun t30=>?_)
  ·have h2:dS y.name b.name=true:=t30;refine af ?_;unfold dM;rw[hbd,Yk (by rw[h1];decide),Yl (by rw[hbdup];exact lB hy hkn h2)];rfl
  have h2:dS y.name b.name=false:=t30;refine ga aN ?_;exact aO J1 (k+1) ⟨hkn,kG hy hd h2⟩
 have hkn:=bc hk t19;subst hkn;have hnd:¬gE (l.dv.map Dr.name) k=true:=by rw[hbdup,hd];decide
 refine gl ?_;refine gc (qk b.body l.bo.length) ?_;refine gC (fun t37=>?_) (fun t37=>?_)
 ·have h3:=dg t37;refine af ?_;unfold dM;rw[hbd,Yk (by rw[h1];decide),Yk hnd,Yl h3];rfl
 have h3:=da t37;refine gC (fun t40=>?_) (fun t40=>?_)
 ·have h4:=cH t40;refine af ?_;unfold dM;rw[hbd,Yk (by rw[h1];decide),Yk hnd,Yk (by rw[h3];decide),Yl h4];rfl
 have h4:=dm t40;have e1:dM l k=if(l.dv.take k).any (fun d=>decide (d.body=b.body))=true then 6 else 0:=by unfold dM;rw[hbd,Yk (by rw[h1];decide),Yk hnd,Yk (by rw[h3];decide),Yk h4]
 refine aW [1,2,5] [2,5] (fun(q:Nat)=>[(7,some (i64 q))]) (fun _=>[]) (fun q=>q<=k/\(l.dv.take q).any (fun d=>decide (d.body=b.body))=false) (fun q=>k-q) 0 ⟨XJ _,rfl⟩ ?_;rintro q ⟨hq,hqd⟩ K2 J2;refine gC (fun t43=>?_) (fun t43=>?_)
 ·have hqn:=a6 t43;obtain⟨y,hy⟩:∃y,l.dv[q]?=some y:=aw oz;refine gi (aE hy) ?_;refine gD ?_;refine gC (fun t54=>?_) (fun t54=>?_)
  ·have h5:decide (y.body=b.body)=true:=decide_eq_true (cH t54);refine af ?_;rw[e1,Yl (lB hy hqn h5)];rfl
  have h5:decide (y.body=b.body)=false:=decide_eq_false (dm t54);refine ga aN ?_;exact aO J2 (q+1) ⟨hqn,kG hy hqd h5⟩
 have hqn:=bc hq t43;subst hqn;refine af ?_;rw[e1,hqd];rfl
theorem Fj(l:Li)(hl:l.ok):FP 40 [l.av] (i64 (aA l)):=by
 have hlb:=hl.lb;refine aj func40 ?_;refine gc (sL l.name hl.name) ?_;refine gC (fun t11=>?_) (fun t11=>?_)
 ·have h1:=dg t11;refine af ?_;unfold aA;rw[Yl h1];rfl
 have h1:=da t11;refine gl ?_;refine gC (fun t15=>?_) (fun t15=>?_)
 ·have h2:=H4 t15;refine af ?_;unfold aA;rw[Yk (by rw[h1];decide),Yl h2];rfl
 have h2:=Dd t15;refine gl ?_;refine gC (fun t19=>?_) (fun t19=>?_)
 ·have h3:8<l.bo.length:=jI t19;refine af ?_;unfold aA;rw[Yk (by rw[h1];decide),Yk h2,Yl h3];rfl
 have h3:l.bo.length<=8:=gX t19;have e0:aA l=if fQ l≠0 then fQ l else if d6 l≠0 then d6 l else fu l:=by unfold aA;rw[Yk (by rw[h1];decide),Yk h2,Yk oz]
 refine gc (Uq l hl) ?_;refine gC (fun t23=>?_) (fun t23=>?_)
 ·have h4:fQ l≠0:=sZ t23;refine af ?_;rw[e0,Yl h4]
 have h4:fQ l=0:=qG t23;refine gl ?_;refine gC (fun t28=>?_) (fun t28=>?_)
 ·have h5:16 < l.jo.length:=jI t28;have ej:d6 l = 4:=by unfold d6; rw [Yl h5]
  refine af ?_;rw[e0,Yk (by rw[h4];simp),Yl (by rw[ej];decide),ej];rfl
 have h5:l.jo.length<=16:=gX t28;have ej:d6 l=fh l.jo.length (fK l):=by unfold d6;rw[Yk oz]
 refine aW [1] [1] (fun(i:Nat)=>[(4,some (i64 i))]) (fun _=>[]) (fun i=>i<=l.jo.length/\∀j,j<i->fK l j=0) (fun i=>l.jo.length-i) 0 ⟨XJ _,fun j h=>by omega⟩ ?_;rintro i ⟨hi,hj⟩ K1 J1;refine gl ?_;refine gC (fun t33=>?_) (fun t33=>?_)
 ·have hin:=a6 t33;refine gc (Rm l hl i hin h5) ?_;refine gC (fun t40=>?_) (fun t40=>?_)
  ·have h6:=sZ t40;refine af ?_;rw[e0,Yk (by rw[h4];simp),Yl (by rw[ej,en hin hj h6];exact h6),ej,en hin hj h6]
  have h6:=qG t40;refine ga aN ?_;exact aO J1 (i+1) ⟨hin,fun j h9=>by rcases XH j i with g |g;exact hj j g;(have:j=i:=by omega);subst this;exact h6⟩
 have hin:=bc hi t33;subst hin;have ejz:d6 l=0:=ej.trans (kU hj);have e0':aA l=fu l:=by rw[e0,Yk (by rw[h4];simp),Yk (by rw[ejz];simp)]
 refine gl ?_;refine gC (fun t45=>?_) (fun t45=>?_)
 ·have h6:2<l.dv.length:=jI t45;refine af ?_;rw[e0'];unfold fu;rw[Yl h6];rfl
 have h6:l.dv.length<=2:=gX t45;have ed:fu l=fh l.dv.length (dM l):=by unfold fu;rw[Yk oz]
 refine aW [1] [1] (fun(k:Nat)=>[(6,some (i64 k))]) (fun _=>[]) (fun k=>k<=l.dv.length/\∀j,j<k->dM l j=0) (fun k=>l.dv.length-k) 0 ⟨XJ _,fun j h=>by omega⟩ ?_;rintro k ⟨hk,hkj⟩ K2 J2;refine gl ?_;refine gC (fun t50=>?_) (fun t50=>?_)
 ·have hkn:=a6 t50;refine gc (VG l hl k hkn h6) ?_;refine gC (fun t57=>?_) (fun t57=>?_)
  ·have h7:=sZ t57;refine af ?_;rw[e0',ed,en hkn hkj h7]
  have h7:=qG t57;refine ga aN ?_;exact aO J2 (k+1) ⟨hkn,fun j h9=>by rcases XH j k with g |g;exact hkj j g;(have:j=k:=by omega);subst this;exact h7⟩
 have hkn:=bc hk t50;subst hkn;refine af ?_;rw[e0',ed,kU hkj];rfl
theorem Qd(l:Li)(hl:l.okw):FP 56 [l.av] (bl (io l)):=by
 have hbl:=hl.lb;refine aj func56 ?_;refine gl ?_;refine aW [1,8,9] [1] (fun(i:Nat)=>[(10,some (i64 i))]) (fun _=>[]) (fun i=>i<=l.bo.length/\(l.bo.take i).all oR=true) (fun i=>l.bo.length-i) 0 ⟨XJ _,rfl⟩ ?_;rintro i ⟨hi,hj⟩ K1 J1;refine gC (fun t11=>?_) (fun t11=>?_)
 ·have hin:=a6 t11;obtain⟨b,hb⟩:=aw hin;refine gi (aE hb) ?_;refine gl ?_;refine gC (fun t17=>?_) (fun t17=>?_)
  ·have h1:30<b.pts.length:=jI t17;refine af ?_;unfold io;rw[kO hb (by unfold oR;rw[decide_eq_false oz];rfl)];rfl
  have h1:b.pts.length<=30:=gX t17;refine gl ?_;refine aW [1,8,9,10,19,20] [1] (fun(k:Nat)=>[(21,some (i64 k))]) (fun _=>[]) (fun k=>k<=b.pts.length/\(b.pts.take k).all lS=true) (fun k=>b.pts.length-k) 0 ⟨XJ _,rfl⟩ ?_;rintro k ⟨hk,hkj⟩ K2 J2;refine gC (fun t22=>?_) (fun t22=>?_)
  ·have hkn:=a6 t22;obtain⟨p,hp⟩:=aw hkn;refine gi (aE hp) ?_;refine gl ?_;refine cQ ?_;refine cQ ?_;refine cQ ?_;refine gC (fun t50=>?_) (fun t50=>?_)
   ·have h2:lS p=false:=Xw t50;refine af ?_;unfold io;rw[kO hb (by unfold oR;rw[kO hp h2,Bool.and_false])];rfl
   have h2:lS p=true:=R5 t50;refine ga aN ?_;exact aO J2 (k+1) ⟨hkn,mr hkj hp h2⟩
  have hkn:=bc hk t22;refine ga aN ?_;exact aO J1 (i+1) ⟨hin,mr hj hb (by unfold oR;rw[decide_eq_true h1,mf hkn hkj];rfl)⟩
 have hin:=bc hi t11;refine gl ?_;refine cQ ?_;refine cQ ?_;refine af ?_;exact congrArg bl (Xa (mf hin hj))
def lE(r:Rt):Bool:=!(cond (cond (cond (aa .gtr (r.num.length:Int) 1) true (aa .gtr (r.den.length:Int) 1)) true (cond (aa .eql (r.num.length:Int) 1) (aa .gtr (ah r.num 0:Int) 400) false)) true
  (cond (aa .eql (r.den.length:Int) 1) (aa .gtr (ah r.den 0:Int) 20) false))
theorem EJ(rs:List Rt)(hl:rs.length<=1000):FP 197 [.lst 3 (rs.map Rt.av)] (bl (rs.all lE)):=by
 refine aj func197 ?_;refine gl ?_;refine aW [5,6] [] (fun(i:Nat)=>[(7,some (i64 i))]) (fun _=>[]) (fun i=>i<=rs.length/\(rs.take i).all lE=true) (fun i=>rs.length-i) 0 ⟨XJ _,rfl⟩ ?_;rintro i ⟨hi,hj⟩ K1 J1;refine gC (fun t8=>?_) (fun t8=>?_)
 ·have hin:=a6 t8;obtain ⟨r,hr⟩:=aw hin;refine gi (aE hr) ?_;refine gl ?_;refine cQ ?_;refine cQ ?_;refine oO (fun ⟨h,h2⟩=>(ci (by have:=cH h2; have e:Int.toNat 0 = 0:=rfl; omega))) ?_;refine cQ ?_;refine oO (fun ⟨h,h2⟩=>(ci (by have:=cH h2; have e:Int.toNat 0 = 0:=rfl; omega))) ?_;refine gC (fun t46=>?_) (fun t46=>?_)
  ·have h1:lE r=false:=congrArg Bool.not t46;refine af ?_;rw[kO hr h1];rfl
  have h1:lE r=true:=congrArg Bool.not t46;refine ga aN ?_;exact aO J1 (i+1) ⟨hin,mr hj hr h1⟩
 have hin:=bc hi t8;refine af ?_;rw[mf hin hj];rfl
def mj(x:Tn):Bool:=decide (x.t.num.length<=1/\x.t.den.length<=1)
def kQ(m:Mk):Bool:=decide (m.x.num.length<=1/\m.x.den.length<=1/\m.y.num.length<=1/\m.y.den.length<=1)
def rx(xs:List Tn):Bool:=xs.all (fun x=>[x.t].all lE)
def rF(ps:List Mk):Bool:=ps.all (fun p=>[p.x,p.y].all lE)
def pM(l:Li):Bool:=l.bo.all (fun b=>rF b.pts)
theorem Lb(l:Li)(hl:l.ok)(xs:List Tn)(hxl:xs.length<=281474976710656):FP 98 [l.av,.lst 4 (xs.map Tn.av)] (bl (rx xs&&pM l)):=by
 have hlb:=hl.lb;refine aj func98 ?_;refine gl ?_;refine aW [2,11,12] [2] (fun(i:Nat)=>[(13,some (i64 i))]) (fun _=>[]) (fun i=>i<=xs.length/\(xs.take i).all (fun x=>[x.t].all lE)=true) (fun i=>xs.length-i) 0 ⟨XJ _,rfl⟩ ?_;rintro i ⟨hi,hj⟩ K1 J1;refine gC (fun t14=>?_) (fun t14=>?_)
 ·have hin:=a6 t14;obtain ⟨x,hx⟩:=aw hin;refine gi (aE hx) ?_;refine gc (EJ [x.t] (by show 1 <= _; omega)) ?_;refine gC (fun t21=>?_) (fun t21=>?_)
  ·have h1:=dg t21;refine af ?_;unfold rx;rw[kO hx h1];rfl
  have h1:=da t21;refine ga aN ?_;exact aO J1 (i+1) ⟨hin,mr hj hx h1⟩
 have hT:rx xs=true:=mf (bc hi t14) hj;refine gl ?_;refine aW [2,24,25] [2] (fun(i:Nat)=>[(26,some (i64 i))]) (fun _=>[]) (fun i=>i<=l.bo.length/\(l.bo.take i).all (fun b=>rF b.pts)=true) (fun i=>l.bo.length-i) 0 ⟨XJ _,rfl⟩ ?_;rintro i ⟨hi2,hj2⟩ K2 J2;refine gC (fun t27=>?_) (fun t27=>?_)
 ·have hin:=a6 t27;obtain⟨b,hb⟩:=aw hin;have hbl:=(hl.bo b (Xx hb)).ll;refine gi (aE hb) ?_;refine gl ?_;refine aW [2,24,25,26,31,32] [2] (fun(k:Nat)=>[(33,some (i64 k))]) (fun _=>[]) (fun k=>k<=b.pts.length/\(b.pts.take k).all (fun p=>[p.x,p.y].all lE)=true) (fun k=>b.pts.length-k) 0 ⟨XJ _,rfl⟩ ?_;rintro k ⟨hk,hkj⟩ K3 J3;refine gC (fun t34=>?_) (fun t34=>?_)
  ·have hkn:=a6 t34;obtain ⟨p,hp⟩:=aw hkn;refine gi (aE hp) ?_;refine gc (EJ [p.x,p.y] (by show 2 <= _; omega)) ?_;refine gC (fun t43=>?_) (fun t43=>?_)
   ·have h1:=dg t43;refine af ?_;rw[hT];unfold pM;rw[kO hb (by unfold rF;exact kO hp h1)];rfl
   have h1:=da t43;refine ga aN ?_;exact aO J3 (k+1) ⟨hkn,mr hkj hp h1⟩
  have hP:rF b.pts=true:=mf (bc hk t34) hkj;refine ga aN ?_;exact aO J2 (i+1) ⟨hin,mr hj2 hb hP⟩
 have hL:pM l=true:=mf (bc hi2 t27) hj2;refine af ?_;rw[hT,hL];rfl
def BL(l:Li)(xs:List Tn):Bool :=
  cond (cond (aa .neq (splitE l:Int) 0) true (aa .leq (((splitG l).length:Int)-l.dv.length) 1)) true (cond (aa .eql (((splitG l).length:Int)-l.dv.length) 2) (rx xs&&pM l) false)
def i7(l:Li)(xs:List Tn):Bool :=
  (io l&&decide (xs.length<=20))&&(xs.all mj&&(l.bo.all (fun b=>b.pts.all kQ)&&(if aA l=0 then BL l xs else true)))
theorem SB{l:Li}{n:Nat}(h:cond (!io l) true (aa .gtr (n:Int) 20)=true):(io l&&decide (n<=20))=false:=by
 cases hb:io l
 ·rfl
 ·rw[hb]at h;have h1:20<n:=jI (b:=20) h;rw[decide_eq_false oz];rfl
theorem U8{l:Li}{n:Nat}(h:cond (!io l) true (aa .gtr (n:Int) 20)=false):io l=true/\n<=20:=by
 cases hb:io l
 ·rw[hb]at h;cases h
 ·rw[hb]at h;exact⟨rfl,gX (b:=20) h⟩
theorem GX{x:Tn}:cond (aa .gtr (x.t.num.length:Int) 1) true (aa .gtr (x.t.den.length:Int) 1)=!mj x:=by
 unfold mj;have e1:=lN (n:=x.t.num.length) (k:=1);have e2:=lN (n:=x.t.den.length) (k:=1);rw[iL];refine(congr (congrArg _ e1) e2).trans ?_;rw[<- Bool.decide_or,<- decide_not];exact decide_eq_decide.2 oz
theorem EF{m:Mk}:cond (cond (cond (aa .gtr (m.x.num.length:Int) 1) true (aa .gtr (m.x.den.length:Int) 1)) true (aa .gtr (m.y.num.length:Int) 1)) true (aa .gtr (m.y.den.length:Int) 1)=!kQ m:=by
 unfold kQ;have e1:=lN (n:=m.x.num.length) (k:=1);have e2:=lN (n:=m.x.den.length) (k:=1);have e3:=lN (n:=m.y.num.length) (k:=1);have e4:=lN (n:=m.y.den.length) (k:=1);rw[iL,iL,iL];refine(congr (congrArg _ (congr (congrArg _ (congr (congrArg _ e1) e2)) e3)) e4).trans ?_;rw[<- Bool.decide_or,<- Bool.decide_or,<- Bool.decide_or,<- decide_not];exact decide_eq_decide.2 oz
theorem so{l:Li}(hl:aA l=0):(splitG l).length<=8:=by
 unfold splitG;split
 ·exact(pH hl).2
 ·exact XJ _
theorem Kc(l:Li)(hw:l.okw)(xs:List Tn)(hxl:xs.length<=281474976710656):FP 32 [l.av,.lst 4 (xs.map Tn.av)] (bl (i7 l xs)):=by
 refine aj func32 ?_;refine gc (Qd l hw) ?_;refine cQ ?_;refine gC (fun t21=>?_) (fun t21=>?_)
 ·have h1:=SB t21;refine af ?_;unfold i7;rw[h1];rfl
 obtain⟨g1,g2⟩:=U8 t21;have hl:=uT g1 hw;have hlb:=hl.lb;refine gl ?_;refine aW [1,2,22,23] [2] (fun(i:Nat)=>[(24,some (i64 i))]) (fun _=>[]) (fun i=>i<=xs.length/\(xs.take i).all mj=true) (fun i=>xs.length-i) 0 ⟨XJ _,rfl⟩ ?_;rintro i ⟨hi,hj⟩ K1 J1;refine gC (fun t25=>?_) (fun t25=>?_)
 ·have hin:=a6 t25;obtain⟨x,hx⟩:=aw hin;refine gi (aE hx) ?_;refine gl ?_;refine cQ ?_;refine gC (fun t39=>?_) (fun t39=>?_)
  ·have h1 : mj x = false := by rw [GX] at t39; exact dg t39
   refine af ?_;unfold i7;rw[g1,decide_eq_true g2,kO hx h1];rfl
  have h1:mj x=true:=by rw[GX]at t39;exact da t39
  refine ga aN ?_;exact aO J1 (i+1) ⟨hin,mr hj hx h1⟩
 have hT:xs.all mj=true:=mf (bc hi t25) hj;refine gl ?_;refine aW [1,2,42,43] [2] (fun(i:Nat)=>[(44,some (i64 i))]) (fun _=>[]) (fun i=>i<=l.bo.length/\(l.bo.take i).all (fun b=>b.pts.all kQ)=true) (fun i=>l.bo.length-i) 0 ⟨XJ _,rfl⟩ ?_;rintro i ⟨hi2,hj2⟩ K2 J2;refine gC (fun t45=>?_) (fun t45=>?_)
 ·have hin:=a6 t45;obtain⟨b,hb⟩:=aw hin;have hbl:=(hl.bo b (Xx hb)).ll;refine gi (aE hb) ?_;refine gl ?_;refine aW [1,2,42,43,44,49,50] [2] (fun(k:Nat)=>[(51,some (i64 k))]) (fun _=>[]) (fun k=>k<=b.pts.length/\(b.pts.take k).all kQ=true) (fun k=>b.pts.length-k) 0 ⟨XJ _,rfl⟩ ?_;rintro k ⟨hk,hkj⟩ K3 J3;refine gC (fun t52=>?_) (fun t52=>?_)
  ·have hkn:=a6 t52;obtain⟨p,hp⟩:=aw hkn;refine gi (aE hp) ?_;refine gl ?_;refine cQ ?_;refine cQ ?_;refine cQ ?_;refine gC (fun t80=>?_) (fun t80=>?_)
   ·have h1 : kQ p = false := by rw [EF] at t80; exact dg t80
    refine af ?_;unfold i7;rw[g1,decide_eq_true g2,hT,kO hb (kO hp h1)];rfl
   have h1:kQ p=true:=by rw[EF]at t80;exact da t80
   refine ga aN ?_;exact aO J3 (k+1) ⟨hkn,mr hkj hp h1⟩
  have hP:b.pts.all kQ=true:=mf (bc hk t52) hkj;refine ga aN ?_;exact aO J2 (i+1) ⟨hin,mr hj2 hb hP⟩
 have hL:l.bo.all (fun b=>b.pts.all kQ)=true:=mf (bc hi2 t45) hj2;refine gc (Fj l hl) ?_;refine gC (fun t85=>?_) (fun t85=>?_)
 ·have h1:=sZ t85;refine af ?_;unfold i7;rw[g1,decide_eq_true g2,hT,hL,Yk h1];rfl
 have h1:=qG t85;have hsl:=so h1;have hld:=hl.ld;refine gc (Ru l hl h1) ?_;refine gl ?_;refine gl ?_;refine ga (eg oz) ?_;refine b7 (fun _=>(Lb l hl xs hxl)) ?_;refine af ?_;unfold i7 BL;rw[g1,decide_eq_true g2,hT,hL,Yl h1];rfl
section
variable{l:Li}{xs:List Tn}{s g:Nat}(W:WkC l xs s g){k:Nat}{gr:Gr}(hg:(splitG l)[k]?=some gr){j r E:Nat}{a:Aq}(Q:QInv l j r E a){n y:Nat}(ok:eI s g (n+1) y j r E=true)(hy:gr.kind≠0->0<y)
include W hg Q ok hy
theorem Xj:∃F,F<=20000000000/\vS F l k a.as false/\AB a.as/\(Lw.llq a.as.rs).length<=2/\(gr.kind≠0->F=3900000/\DyS a.as):=by
 obtain⟨⟨hE,hr,hj⟩,_⟩:=r5 ok;have h3:(Lw.llq a.as.rs).length<=2:=by rw[a.llq];have:=Q.lv;omega
 have al:=Q.ab W.li (by omega:E<=50000000000) hr
 by_cases hk:gr.kind=0
 ·exact⟨E,hE,Q.sma oz (XD _) k false,al,h3,fun h=>absurd hk h⟩
 ·have hy:=hy hk;obtain ⟨y',rfl⟩:∃ y',y = y' + 1:=⟨y - 1,by omega⟩
  obtain⟨⟨hj,hE,hr,hX,hJ⟩,_⟩:=tC ok;exact⟨3900000,by omega,Q.sma oz hE k false,al,h3,fun _=>⟨rfl,QInv.dyS W hg Q hr hj⟩⟩
theorem M6:vJ l k (cz gr xs) a.as=((eV l a.as gr (cz gr xs)).map Sv.av,mT l a.as gr (cz gr xs)):=by
 have _:=ok;have _:=hy;unfold vJ;have hgA:iz l (k:Nat)=gr:=aq hg;rw[Yl (Q.dy0 W.li W.sp hg false),hgA];exact Prod.ext (Tt _ _ _ _) rfl
theorem Kv:FP 18 [l.av,i64 k,(cz gr xs).av,a.av] (.tup [.lst 3 ((eV l a.as gr (cz gr xs)).map Sv.av),br (mT l a.as gr (cz gr xs))]):=by
 obtain⟨F,hF,hs,al,h3,hR⟩:=Xj W hg Q ok hy;have hgA:iz l (k:Nat)=gr:=aq hg;have h:=KF l W.hl k (W.tn hg).1 (W.tn hg).2.1 a.as al (fun _=>h3) hF hs (fun _ h=>hR (by rw[hgA]at h;exact h));rw[M6 W hg Q ok hy,a.as_av]at h;exact h
theorem Xd:∃y' j' r' E',eI s g n y' j' r' E'=true/\(y'+(if gr.kind≠0 then 1 else 0)=y)/\∀sv∈eV l a.as gr (cz gr xs),QInv l j' r' E' (a.nxt gr sv):=by
 by_cases hk:gr.kind=0
 ·exact⟨y,j,r,_,(r5 ok).2,by simp[hk],Q.drv W hg ok hk⟩
 ·have hy:=hy hk;obtain ⟨y',rfl⟩:∃ y',y = y' + 1:=⟨y - 1,by omega⟩
  exact⟨y',j+1,_,_,(tC ok).2,by simp[hk],Q.dy W hg ok hk⟩
end
def kW(g:Gr):Bool:=decide (g.kind≠0)
theorem Hx{F:Int->Bool}{sg:Bool}{f:Sv->List Aq×Nat}{M:Nat}:∀{S:List Sv},(∀s∈S,(f s).1.length<=M)->(fp F sg f S).1.length<=S.length*M
 |[],h=>XJ _
 |s::S,h=>by
  have h1:=h s X7;have h2:=Hx (F:=F) (sg:=sg) (S:=S) (fun x hx=>h x (X8 _ hx));rw[pJ,XK,Nat.succ_mul];split
  ·omega
  ·split
   ·omega
   ·split
    ·omega
    ·simp only[XZ];omega
structure WkSt(l:Li)(s g n:Nat)(a:Aq):Prop where
  st:∃j r E y,QInv l j r E a/\eI s g n y j r E=true/\((splitG l).drop a.ms.length).countP kW<=y
  ln:a.ms.length+n=(splitG l).length
theorem WkSt.next{l:Li}{xs:List Tn}{s g n:Nat}(W:WkC l xs s g){a:Aq}(h:WkSt l s g (n+1) a):∃gr,(splitG l)[a.ms.length]?=some gr /\
  FP 18 [l.av,i64 a.ms.length,(cz gr xs).av,a.av] (.tup [.lst 3 ((eV l a.as gr (cz gr xs)).map Sv.av),br (mT l a.as gr (cz gr xs))]) /\
  SolP (eV l a.as gr (cz gr xs)) gr.kind a.ts.length gr.bo.length/\∀sv∈eV l a.as gr (cz gr xs),WkSt l s g n (a.nxt gr sv):=by
 obtain⟨⟨j,r,E,y,Q,ok,hc⟩,hl⟩:=h;obtain⟨gr,hg⟩:=aw (l:=splitG l) (i:=a.ms.length) oz;have hdr:=sK hg;rw[hdr,List.countP_cons]at hc
 have hy:gr.kind≠0->0<y:=fun hk=>by
  have:kW gr=true:=decide_eq_true hk;rw[Yl this]at hc;omega
 obtain⟨y',j',r',E',ok',ey,hQ⟩:=Xd W hg Q ok hy;refine⟨gr,hg,Kv W hg Q ok hy,QJ W hg Q ok hy,fun sv hsv=>⟨⟨j',r',E',y',hQ sv hsv,ok',?_⟩,?_⟩⟩
 ·have e : (a.nxt gr sv).ms.length = a.ms.length + 1 := by show (a.ms ++ [sv.mode]).length = _; simp
  rw[e]
  by_cases hk:gr.kind=0
  ·have h1 : kW gr = false := by unfold kW; simp [hk]
   simp only[hk,ne_eq,not_true_eq_false,if_false]at ey;rw[h1]at hc;simp only[Bool.false_eq_true,if_false]at hc;omega
  ·have h1:kW gr=true:=decide_eq_true hk;rw[Yl hk]at ey;rw[Yl h1]at hc;omega
 ·show(a.ms++[sv.mode]).length+n=_;rw[XZ];simp only[XK,XM];omega
theorem zo{l:Li}{xs:List Tn}{s g:Nat}(W:WkC l xs s g)(F:Nat->Int->Bool)(sg:Bool):∀(n:Nat)(a:Aq),WkSt l s g n a->(gh F sg l xs (splitG l) n a).1.length<=2^n
 |0,a,h=>XD _
 |n+1,a,h=>by
  obtain⟨gr,hg,_,hP,hn⟩:=h.next W;unfold gh;rw[aq hg];split
  ·exact XJ _
  ·have h1:=Hx (F:=F a.ms.length) (sg:=sg) (f:=fun sv=>gh F sg l xs (splitG l) n (a.nxt gr sv)) (M:=2^n) (S:=eV l a.as gr (cz gr xs)) (fun sv hsv=>zo W F sg n _ (hn sv hsv));have h2:=XY (2^n) hP.two;rw[Nat.pow_succ];omega
theorem xT{l:Li}{xs:List Tn}{s g:Nat}(W:WkC l xs s g)(F:Nat->Int->Bool)(sg:Bool){fo:FuncId}{caps:List AV}(hF:∀(k:Nat)(m:Int),k<(splitG l).length->FP fo ([i64 k,i64 m]++caps) (bl (F k m))) :
  ∀(n:Nat)(a:Aq),WkSt l s g n a->∀o:List Aq,o.length+2^n<=1000 ->
   Con prog 100 [.ptr 1000 0,a.av] (fa l xs (splitG l) fo caps sg 1001 (o.map Aq.av)) (br (gh F sg l xs (splitG l) n a).2) (fa l xs (splitG l) fo caps sg 900 ((o++(gh F sg l xs (splitG l) n a).1).map Aq.av))
 |0,a,h,o,ho=>by
  have hG:(splitG l).length<=100:=by have:=so W.li;omega
  obtain⟨⟨j,r,E,y,Q,ok,_⟩,hl⟩:=h;obtain⟨hE,_,_⟩:=JP ok;have hlb:=(cK W.li).2.2.2.1;have hln:=Q.ln;have h3:=Q.tw.three;obtain⟨D,N,hD,hts,h1,h2⟩:=Q.tw.rb
  exact Sd oz hG oz (QV (e:=5000000000+E) Q.tw.five (fun x hx=>by
   obtain⟨i,hi⟩:=Yd hx;have hi2:=(List.getElem?_eq_some_iff.1 hi).1;have h9:=Q.tw.len i hi2;rw[aq hi]at h9;exact⟨Q.tw.five,.inr ⟨i,by omega,h9⟩,D,N,hts x hx,XW h1 (cM (by have:=Q.tw.le;omega)),XW h2 (cM (by have:=Q.tw.le;omega))⟩)
   (fun p hp=>(Q.bs p hp).up (XD _) Q.tw.five oz) oz oz oz oz)
 |n+1,a,h,o,ho=>by
  have hG:(splitG l).length<=100:=by have:=so W.li;omega
  have hlb:=(cK W.li).2.2.2.1;have hln:=h.ln;obtain⟨j,r,E,y,Q,ok,_⟩:=h.st;obtain⟨gr,hg,hS,hP,hn⟩:=h.next W;obtain⟨hdy,hgo⟩:=oY W.li (Xx hg);have h2:=wA W.li;have hxl:=W.ln;have hQl:=Q.ln;have hgb:=hgo.lb
  have key := Se (l := l) (xs := xs) (G := splitG l) (fo := fo) (caps := caps) (sg := sg) (o := o) hg hG oz (fun hk => by rw [hxl]; exact DQ hdy hk) hS (by have := hP.two; omega) (F := F a.ms.length) (fun m => hF _ m oz)
   (fun sv hsv => WA (fun b hb => by rw [hQl]; exact hgo.b b hb) (by
    obtain⟨i,hi⟩:=Yd hsv;exact(hP.md i sv hi).2.2) oz oz oz)
   (f:=fun sv=>gh F sg l xs (splitG l) n (a.nxt gr sv)) (M:=2^n) (B:=1000) (fun sv hsv=>zo W F sg n _ (hn sv hsv)) (by have:=XY (2^n) hP.two;rw[Nat.pow_succ]at ho;omega)
   (fun o' ho' sv hsv=>xT W F sg hF n _ (hn sv hsv) o' ho')
  have e:gh F sg l xs (splitG l) (n+1) a=(if mT l a.as gr (cz gr xs)≠0 then([],mT l a.as gr (cz gr xs))else fp (F a.ms.length) sg (fun sv=>gh F sg l xs (splitG l) n (a.nxt gr sv)) (eV l a.as gr (cz gr xs))):=by
   conv=>lhs;unfold gh
   rw[aq hg]
  rw[e]
  by_cases hE:mT l a.as gr (cz gr xs)≠0
  ·rw[Yl hE]at key ⊢;rw[Yl hE]at key;exact key
  ·rw[Yk hE]at key ⊢;rw[Yk hE]at key;exact key
abbrev ry(l:Li)(xs:List Tn)(G:List Gr)(fo:FuncId)(caps:List AV)(sg:Bool)(k0 k:Nat)(es:List AV):Hp :=
  [(k0,some (.box (ft l xs G fo caps sg (.ms k 3 0 es.length)))),(k,some (.row 3 es))]
def vd(k:Nat):Nat:=bif Nat.beq k 1000 then 902 else bif Nat.beq k 902 then 1000 else pO k
theorem vW{a b:Nat}(h:¬a=b):Nat.beq a b=false:=by
 cases h1:Nat.beq a b
 ·rfl
 ·exact absurd (XG h1) h
theorem Fc(k:Nat):vd (vd k)=k:=by
 by_cases h1:k=1000
 ·subst h1;rfl
 by_cases h2:k=902
 ·subst h2;rfl
 by_cases h3:k=1001
 ·subst h3;rfl
 by_cases h4:k=901
 ·subst h4;rfl
 have e:vd k=k:=by simp only[vd,pO,vW h1,vW h2,vW h3,vW h4,cond_false]
 rw[e,e]
theorem Jw{l:Li}{xs:List Tn}{G:List Gr}{fo:FuncId}{caps:List AV}{sg:Bool}{es:List AV}(h0:0<l.bo.length)(hl:l.bo.length<=100) :
  Con prog 101 [.ptr 902 0] (ry l xs G fo caps sg 902 901 es) (eO l).av (ry l xs G fo caps sg 902 901 es):=Con.pm Fc (U0 h0 hl)
theorem Hs{l:Li}{xs:List Tn}{G:List Gr}{fo:FuncId}{caps:List AV}{sg:Bool}{es es':List AV}{a:Aq}{e:Nat}
  (h:Con prog 100 [.ptr 1000 0,a.av] (fa l xs G fo caps sg 1001 es) (br e) (fa l xs G fo caps sg 900 es')) :
  Con prog 100 [.ptr 902 0,a.av] (ry l xs G fo caps sg 902 901 es) (br e) (ry l xs G fo caps sg 902 900 es'):=Con.pm Fc h
def ia:Nat->Int->Bool:=fun _ _=>true
def mb(F:Nat->Int->Bool)(sg:Bool)(l:Li)(xs:List Tn):List Aq×Nat:=gh F sg l xs (splitG l) (splitG l).length (eO l)
def jc(l:Li)(xs:List Tn):List Aq×Nat:=if cJ l xs≠0 then([],cJ l xs)else if(mb ia false l xs).2≠0 then([],(mb ia false l xs).2)else mb ia false l xs
theorem Vb{l:Li}{xs:List Tn}(h0:cJ l xs≠0)(hop:Con prog 99 [l.av,.lst 4 (xs.map Tn.av)] [] (.tup [pq (cJ l xs),br (cJ l xs)]) (rA (cJ l xs) l xs)) :
  FP 33 [l.av,.lst 4 (xs.map Tn.av)] (.tup [.lst 3 [],br (cJ l xs)]):=by
 rw[lL h0,wV h0]at hop;refine aj func33 ?_;refine gc hop ?_;refine gC (fun t16=>?_) (fun t16=>?_) (st2:=(77777,0))
 ·refine gR ?_;exact dF (Sub.tup (.cons (.nil _ _ _) (.cons (.refl _) .nil)))
 exact absurd (cS t16) h0
theorem PQ{l:Li}{xs:List Tn}(h0:cJ l xs=0)(hop:Con prog 99 [l.av,.lst 4 (xs.map Tn.av)] [] (.tup [pq (cJ l xs),br (cJ l xs)]) (rA (cJ l xs) l xs))(hb:0<l.bo.length)(hl:l.bo.length<=100)
  {R:List Aq×Nat} (hw:Con prog 100 [.ptr 1000 0,(eO l).av] (fa l xs (splitG l) 198 [] false 1001 []) (br R.2) (fa l xs (splitG l) 198 [] false 900 (R.1.map Aq.av))) :
  FP 33 [l.av,.lst 4 (xs.map Tn.av)] (.tup [.lst 3 ((if R.2≠0 then[]else R.1).map Aq.av),br R.2]):=by
 rw[h0]at hop;have hop:Con prog 99 [l.av,.lst 4 (xs.map Tn.av)] [] (.tup [.ptr 900 0,.v .nilIface]) [(900,some (.box (ft l xs (splitG l) 198 [] false (nS))))]:=hop;refine aj func33 ?_;refine gt (aH hop (bB rfl rfl) aI rfl rfl) ?_;refine gC (fun t16=>?_) (fun t16=>?_) (st1:=(3,0)) (st2:=(77777,0));cases t16;refine gW (Wk.o (sl:=[(6,some (.ptr 900 0))]) (hp:=[(900,some (.box (ft l xs (splitG l) 198 [] false (nS))))])) ?_ (77777,0);refine gW (Wk.rk (k:=900) (d:=902) rfl rfl) ?_ (77777,0);refine gW (Wk.virt 901 3 rfl) ?_ (77777,0);refine gW (Wk.of (sl:=[(6,some (.ptr 902 0))]) (hp:=ry l xs (splitG l) 198 [] false 902 901 []) (.k .nil) (.cons rfl (BlkSub.bL (.cons (.refl _) (.cons (.refl _) (.cons (.refl _) (.cons (.refl _) (.cons (.refl _) (.cons (.refl _) (.cons (.refl _) (.cons (.refl _) (.cons (Sub.nM _ _ _) .nil))))))))) rfl) (.k .nil))) ?_;refine gt (ya (Jw hb hl) (cB rfl) rfl rfl rfl rfl rfl) ?_;refine gt (aH (Hs hw) (bB rfl rfl) aI rfl rfl) ?_;refine gC (fun t23=>?_) (fun t23=>?_) (st2:=(77777,0))
 ·have hE:=cU t23;refine gR ?_;exact dF (by rw[Yl hE];exact Sub.tup (.cons (.nil _ _ _) (.cons (.refl _) .nil)))
 have hE:=cS t23;refine gW ((Wk.freeze (k:=900) rfl).trans<|Wk.of (sl:=[(6,some (.ptr 902 0))]) (hp:=[(902,some (.box (ft l xs (splitG l) 198 [] false (.lst 3 (R.1.map Aq.av)))))]) aZ (.cons rfl (BlkSub.bL (.cons (.refl _) (.cons (.refl _) (.cons (.refl _) (.cons (.refl _) (.cons (.refl _) (.cons (.refl _) (.cons (.refl _) (.cons (.refl _) (.cons (Sub.of (bJ rfl)) .nil))))))))) rfl) .nil)) ?_;refine gR ?_;exact dF (Sub.of (by rw[Yk oz,hE];rfl))
def G1(modes:List Int):Nat->Int->Bool:=fun k m=>decide (m=modes.getD k 0)
theorem O2{l:Li}{xs:List Tn}{modes:List Int}(hml:modes.length<=100)(h0:cJ l xs=0)(hop:Con prog 99 [l.av,.lst 4 (xs.map Tn.av)] [] (.tup [pq (cJ l xs),br (cJ l xs)]) (rA (cJ l xs) l xs))(hb:0<l.bo.length)(hl:l.bo.length<=100)(hsl:(splitG l).length<=100)
  {R:List Aq×Nat} (hw:modes.length=(splitG l).length->Con prog 100 [.ptr 1000 0,(eO l).av] (fa l xs (splitG l) 223 [.iptr [.lst 1 (modes.map i64)]] true 1001 []) (br R.2) (fa l xs (splitG l) 223 [.iptr [.lst 1 (modes.map i64)]] true 900 (R.1.map Aq.av))) (hR:R.1.length<=1000) :
  FP 109 [l.av,.lst 4 (xs.map Tn.av),.lst 1 (modes.map i64)] (.tup [(if modes.length≠(splitG l).length then Aq.mk [] [] []else if R.2≠0 then Aq.mk [] [] []else R.1.getD 0 (Aq.mk [] [] [])).av,br (if modes.length≠(splitG l).length then 10 else if R.2≠0 then R.2 else if R.1=[]then 16 else 0)]):=by
 rw[h0]at hop;have hop:Con prog 99 [l.av,.lst 4 (xs.map Tn.av)] [] (.tup [.ptr 900 0,.v .nilIface]) [(900,some (.box (ft l xs (splitG l) 198 [] false (nS))))]:=hop;refine aj func109 ?_;refine gt (aH hop (bB rfl rfl) aI rfl rfl) ?_;refine gC (fun t18=>?_) (fun t18=>?_) (st1:=(3,0)) (st2:=(77777,0));cases t18;refine gW (Wk.o (sl:=[(5,some (.ptr 5 0)),(6,some (.ptr 6 0)),(8,some (.ptr 900 0))]) (hp:=[(5,some (.box [.lst 1 (modes.map i64)])),(6,some (.box [nS,nS,nS])),(900,some (.box (ft l xs (splitG l) 198 [] false (nS))))])) ?_ (77777,0);refine gW (Wk.rk (k:=900) (d:=902) rfl rfl) ?_;refine gl ?_;refine gl ?_;refine gD ?_;refine gC (fun t28=>?_) (fun t28=>?_) (st2:=(77777,0))
 ·have h1:=w7 t28;refine gR ?_;exact dF (by rw[Yl h1,Yl h1];exact Sub.tup (.cons (Sub.agg (.cons (.nil _ _ _) (.cons (.nil _ _ _) (.cons (.nil _ _ _) .nil))) rfl) (.cons (.refl _) .nil)))
 have h1:=Ah t28;have hm:¬(modes.length≠(splitG l).length):=fun h=>h h1
 refine gW ((Wk.freezeB (k:=5) rfl rfl).trans<|Wk.o (sl:=[(5,some (.iptr [.lst 1 (modes.map i64)])),(6,some (.ptr 6 0)),(8,some (.ptr 902 0))]) (hp:=[(6,some (.box [nS,nS,nS])),(902,some (.box (ft l xs (splitG l) 198 [] false (nS))))])) ?_ (7,0);refine gW (Wk.of (sl:=[(6,some (.ptr 6 0)),(8,some (.ptr 902 0))]) (hp:=[(6,some (.box [nS,nS,nS])),(902,some (.box (ft l xs (splitG l) 223 [.iptr [.lst 1 (modes.map i64)]] true (nS))))]) aZ (.k (.cons rfl (BlkSub.bL (.cons (.refl _) (.cons (.refl _) (.cons (.refl _) (.cons (.refl _) (.cons (.refl _) (.cons (.refl _) (.cons (sW rfl) (.cons (.refl _) (.cons (.refl _) .nil))))))))) rfl) .nil))) ?_ (7,0)
 refine gW (Wk.virt 901 3 rfl) ?_ (7,0);refine gW (Wk.of (sl:=[(6,some (.ptr 6 0)),(8,some (.ptr 902 0))]) (hp:=(6,some (.box [nS,nS,nS]))::ry l xs (splitG l) 223 [.iptr [.lst 1 (modes.map i64)]] true 902 901 []) (.k (.k .nil)) (.k (.cons rfl (BlkSub.bL (.cons (.refl _) (.cons (.refl _) (.cons (.refl _) (.cons (.refl _) (.cons (.refl _) (.cons (.refl _) (.cons (.refl _) (.cons (.refl _) (.cons (Sub.nM _ _ _) .nil))))))))) rfl) (.k .nil)))) ?_
 refine gt (ya (Jw hb hl) (cB rfl) rfl rfl rfl rfl rfl) ?_;refine gt (aH (Hs (hw h1)) (bB rfl rfl) aI rfl rfl) ?_;refine gC (fun t43=>?_) (fun t43=>?_) (st2:=(77777,0))
 ·have hE:=cU t43;refine gR ?_;exact dF (by rw[Yk hm,Yk hm,Yl hE,Yl hE];exact Sub.tup (.cons (Sub.agg (.cons (.nil _ _ _) (.cons (.nil _ _ _) (.cons (.nil _ _ _) .nil))) rfl) (.cons (.refl _) .nil)))
 have hE:=cS t43;have hE':¬(R.2≠0):=fun h=>h hE
 refine gW ((Wk.freeze (k:=900) rfl).trans<|Wk.of (sl:=[(6,some (.ptr 6 0)),(8,some (.ptr 902 0))]) (hp:=[(6,some (.box [nS,nS,nS])),(902,some (.box (ft l xs (splitG l) 223 [.iptr [.lst 1 (modes.map i64)]] true (.lst 3 (R.1.map Aq.av)))))]) aZ (.k (.cons rfl (BlkSub.bL (.cons (.refl _) (.cons (.refl _) (.cons (.refl _) (.cons (.refl _) (.cons (.refl _) (.cons (.refl _) (.cons (.refl _) (.cons (.refl _) (.cons (Sub.of (bJ rfl)) .nil))))))))) rfl) .nil))) ?_
 refine gl ?_;refine gC (fun t51=>?_) (fun t51=>?_)
 ·have h2 : R.1=[] := List.length_eq_zero_iff.1 (by simpa[aa]using t51);refine gR ?_;exact dF (by rw[Yk hm,Yk hm,Yk hE',Yk hE',Yl h2,h2];exact Sub.tup (.cons (Sub.agg (.cons (.nil _ _ _) (.cons (.nil _ _ _) (.cons (.nil _ _ _) .nil))) rfl) (.cons (.refl _) .nil)))
 have h2:R.1≠[]:=fun h=>by rw[h]at t51;exact absurd t51 (by simp[aa])
 obtain⟨a0,ha0⟩:=aw (l:=R.1) (i:=0) (by cases hh:R.1 with |nil=>exact absurd hh h2 |cons _ _=>simp);refine gi (aE ha0) ?_;refine gR ?_;exact dF (Sub.of (by rw[Yk hm,Yk hm,Yk hE',Yk hE',Yk h2,aq ha0];rfl))
theorem Rt.qbV{r:Rt}{e:Nat}(h:r.ok)(he:1<=e)(hn:val r.num<2^e)(hd:val r.den<2^e):Qb e r.q:=by
 by_cases h0:r.valid=true/\r.num≠[]
 ·obtain⟨h1,h2,h3,h4,h5,h6⟩:=Rt.parts h h0.1 h0.2;refine⟨?_,?_⟩
  ·have : r.q.num.natAbs = val r.num := by rw [h1]; unfold sgn; split <;> omega
   rw[this];exact hn
  ·rw[h2];exact hd
 ·rw[Rt.zero h0];exact Qb.zero.mono he
theorem Dz{l:List Nat}{b e:Nat}(h:¬1<l.length)(hb:l.length=1->ah l 0<=b)(he:b<2^e):val l<2^e:=by
 match l with
 |[]=>exact XX (XJ b) he
 |[x] =>
  have h1:x<=b:=hb rfl;have h2:val [x]=x:=by simp[val]
  rw[h2];omega
 |_::_::_=>simp at h
theorem yR{r:Rt}(h:r.ok)(hl:lE r=true):Qb 9 r.q:=by
 unfold lE at hl;rw[iL,iL,iL,Bool.not_eq_true',Bool.or_eq_false_iff,Bool.or_eq_false_iff,Bool.or_eq_false_iff]at hl;obtain⟨⟨⟨h1,h2⟩,h3⟩,h4⟩:=hl;have g1:r.num.length<=1:=gX (b:=1) h1;have g2:r.den.length<=1:=gX (b:=1) h2;refine Rt.qbV h oz (Dz (b:=400) oz (fun hh=>?_) (by decide)) (Dz (b:=20) oz (fun hh=>?_) (by decide))
 ·rw[hh]at h3;exact gX (b:=400) h3
 ·rw[hh]at h4;exact gX (b:=20) h4
theorem Sq{l:Li}{xs:List Tn}(h:cJ l xs=0):aA l=0/\splitE l=0/\xs.length=l.dv.length/\∀x∈xs,x.err=0:=by
 unfold cJ at h;split at h
 ·rename_i h1;exact absurd h h1
 ·rename_i h1;have h1:=Decidable.not_not.1 h1;unfold sS at h;split at h
  ·rename_i h2;exact absurd h h2
  ·rename_i h2;have h2:=Decidable.not_not.1 h2;split at h
   ·cases h
   ·rename_i h3;exact⟨h1,h2,Decidable.not_not.1 h3,fun x hx=>oa h _ (List.mem_map.2 ⟨x,hx,rfl⟩)⟩
theorem Q6(gs:List Gr):gs.countP kW+gs.countP (fun g=>decide (g.kind=0))=gs.length:=by
 induction gs with
 |nil=>rfl
 |cons g gs ih =>
  rw[List.countP_cons,List.countP_cons,XK]
  by_cases hk:g.kind=0
  ·have h1 : kW g = false := by unfold kW; simp [hk]
   rw[h1];simp only[hk,decide_true,Bool.false_eq_true,if_false,if_true];omega
  ·have h1:kW g=true:=decide_eq_true hk;rw[h1];simp only[hk,decide_false,Bool.false_eq_true,if_false,if_true];omega
theorem vQ{s g:Nat}:∀{n m y y' j r E:Nat},eI s g n y j r E=true->m<=n->y'<=y->eI s g m y' j r E=true
 |n,0,y,y',j,r,E,h,hm,hy=>by
  have h1:=Ag h;exact decide_eq_true h1
 |n+1,m+1,y,y',j,r,E,h,hm,hy=>by
  have h1:=r5 h;unfold eI;simp only[XF,Yf,decide_eq_true_eq];refine⟨Ag h,vQ h1.2 oz hy,?_⟩
  by_cases hz:y'=0
  ·exact .inl hz
  ·right;obtain ⟨y2,rfl⟩:∃ y2,y = y2 + 1:=⟨y - 1,by omega⟩
   have h2:=tC h;exact⟨h2.1,vQ h2.2 oz oz⟩
theorem uW{l:Li}{xs:List Tn}(hL:i7 l xs=true)(hl:l.ok)(hxw:∀x∈xs,x.t.wok)(h0:cJ l xs=0):∃s g,WkC l xs s g/\WkSt l s g (splitG l).length (eO l):=by
 obtain⟨hli,hsp,hln,hxe⟩:=Sq h0;unfold i7 at hL;simp only[XF,decide_eq_true_eq]at hL;obtain⟨⟨_,_⟩,hT,hM,hR⟩:=hL;rw[X9]at hT hM;rw[Yl hli]at hR;unfold BL at hR;rw[iL,iL,iC]at hR;have hdl:=To hli hsp;have hd2:=wA hli;have hcn:=Q6 (splitG l)
 have hxo:∀x∈xs,x.t.ok/\Qb 32 x.t.q:=fun x hx=>by
  have h9:=hT x hx;unfold mj at h9;rw[decide_eq_true_eq]at h9;have ho:=(hxw x hx).ok h9.1 h9.2 oz;exact⟨ho,(Rt.qb ho (k:=1) oz h9.1 h9.2).mono oz⟩
 have hstart:∀(s g n y:Nat),eI s g n y 0 0 2=true->(splitG l).length<=n->(splitG l).countP kW<=y->WkSt l s g (splitG l).length (eO l):=fun s g n y ok h1 h2 =>
  ⟨⟨0,0,2,y,Jo l,vQ ok h1 (XD _),h2⟩,Nat.zero_add _⟩
 by_cases hn:(splitG l).length<=l.dv.length+1
 ·refine⟨32,134,⟨hl,hli,hsp,?_,hln,fun x hx=>?_⟩,hstart 32 134 3 1 C9 oz oz⟩
  ·intro b hb m hm;have h9:=hM b hb;rw[X9]at h9;have h8:=h9 m hm;unfold kQ at h8;rw[decide_eq_true_eq]at h8;have ho:=(hl.bo b hb).pts m hm;exact⟨(Rt.qb ho.x (k:=1) oz h8.1 h8.2.1).mono oz,(Rt.qb ho.y (k:=1) oz h8.2.2.1 h8.2.2.2).mono oz⟩
  ·obtain⟨h1,h2⟩:=hxo x hx;exact⟨h1,hxe x hx,h2.mono oz,Cb.one (sD h2),Cb.one (tG h2)⟩
 ·have hlow:(splitG l).length=l.dv.length+2/\rx xs=true/\pM l=true:=by
   simp only[Yf,XF]at hR;rcases hR with(h9 |h9) |⟨h9,h8⟩
   ·rw[hsp]at h9;exact absurd h9 (by simp[aa])
   ·have : ((splitG l).length : Int) - l.dv.length <= 1 := by simpa [aa] using h9
    omega
   ·have : ((splitG l).length : Int) - l.dv.length = 2 := by simpa [aa] using h9
    exact⟨by omega,h8.1,h8.2⟩
  obtain⟨hlen,hlT,hlL⟩:=hlow;refine⟨9,42,⟨hl,hli,hsp,?_,hln,fun x hx=>?_⟩,hstart 9 42 4 2 Q3 oz oz⟩
  ·intro b hb m hm;unfold pM at hlL;rw[X9]at hlL;have h9:=hlL b hb;unfold rF at h9;rw[X9]at h9;have h8:=h9 m hm;simp only[List.all_cons,List.all_nil,Bool.and_true,XF]at h8;have ho:=(hl.bo b hb).pts m hm;exact⟨yR ho.x h8.1,yR ho.y h8.2⟩
  ·obtain⟨h1,h2⟩:=hxo x hx;unfold rx at hlT;rw[X9]at hlT;have h8:=hlT x hx;simp only[List.all_cons,List.all_nil,Bool.and_true]at h8;have h9:=yR h1 h8;exact⟨h1,hxe x hx,h2.mono oz,Cb.one (sD h9),Cb.one (tG h9)⟩
def iT(m:Mk):Mk:=⟨m.name,rt m.x.q,rt (-m.y.q)⟩
def jd(b:Bd):Bd:=⟨b.name,b.pts.map iT⟩
def dL(l:Li):Li:=⟨l.name,l.bo.map jd,l.jo,l.dv⟩
theorem o8(l:Li):(dL l).bo.length=l.bo.length:=XA _
theorem IG(bs:List Bd)(i:Nat):(bs.map jd).getD i default=jd (bs.getD i default):=by
 rw[Xy,Xy,XE];cases bs[i]? with
 |none=>rfl
 |some b=>rfl
theorem FJ(l:Li)(i:Int):cA (dL l) i=(cA l i).map iT:=by
 unfold cA dL;rw[IG];rfl
theorem HC(ps:List Mk)(n:Nat):((ps.map iT).getD n default).x.q=(ps.getD n default).x.q:=by
 rw[Xy,Xy,XE];cases ps[n]? with
 |none=>rfl
 |some m=>exact bV _
theorem IH(ps:List Mk)(n:Nat):((ps.map iT).getD n default).y.q=-(ps.getD n default).y.q:=by
 rw[Xy,Xy,XE];cases ps[n]? with
 |none=>rfl
 |some m=>exact bV _
theorem NH(a b:Rat):(-a=-b)↔a=b:=by constructor <;> intro h <;> grind
theorem Vz(l:Li)(j:Jt):dN (dL l) j=dN l j:=by
 unfold dN;simp only[o8,FJ,XA,HC,IH,NH]
theorem OQ{ps:List Mk}{i:Nat}(hi:i<ps.length)(h:dC ps i=0):dC (ps.map iT) i=0:=by
 obtain⟨m,hm⟩:=aw hi;have e1:(ps.map iT).getD i default=iT m:=aq (by rw[XE,hm];rfl);have e2:ps.getD i default=m:=aq hm;unfold dC at h ⊢;rw[e1];rw[e2]at h;have e3:(ps.map iT).map Mk.name=ps.map Mk.name:=by rw[map_map];rfl
 rw[e3];split at h
 ·cases h
 ·split at h
  ·cases h
  ·rename_i h1 h2;have h1':¬gL (iT m).name=false:=h1;rw[Yk h1',Yk h2,Yl ⟨rJ _,rJ _⟩]
theorem O6{bs:List Bd}{i:Nat}(h:dG bs i=0):dG (bs.map jd) i=0:=by
 unfold dG at h ⊢;rw[IG];have e3:(bs.map jd).map Bd.name=bs.map Bd.name:=by rw[map_map];rfl
 rw[e3];split at h
 ·cases h
 ·split at h
  ·cases h
  ·split at h
   ·cases h
   ·rename_i h1 h2 h3;have e4:(jd (bs.getD i default)).pts.length=(bs.getD i default).pts.length:=XA _;have h1':¬gL (jd (bs.getD i default)).name=false:=h1;rw[Yk h1',Yk h2,e4,Yk h3];exact kU (fun k hk=>OQ hk (nD h k hk))
theorem PU{l:Li}(h:aA l=0):aA (dL l)=0:=by
 unfold aA at h ⊢;have e1:(dL l).name=l.name:=rfl;rw[e1,o8]
 have e2:d6 (dL l)=d6 l:=by
  unfold d6 fK;simp only[Vz];rfl
 have e3:fu (dL l)=fu l:=by
  unfold fu dM;simp only[o8];rfl
 rw[e2,e3];split at h
 ·cases h
 ·split at h
  ·cases h
  ·split at h
   ·cases h
   ·split at h
    ·rename_i h4;exact absurd h h4
    ·rename_i h1 h2 h3 h4
     have e5:fQ (dL l)=0:=by
      have h5:fQ l=0:=by omega
      unfold fQ at h5 ⊢;rw[o8];exact kU (fun i hi=>O6 (nD h5 i hi))
     rw[Yk h1,Yk h2,Yk h3,Yk oz];exact h
def jF(x:Tn):Tn:=⟨rt (-x.t.q),x.half⟩
theorem P3{x:Tn}(h:x.err=0):(jF x).err=0:=by
 unfold Tn.err at h ⊢;split at h
 ·rename_i h1;refine Yl ⟨rJ _,fun hh=>?_⟩;show(rt (-x.t.q)).q=0;rw[bV,h1.2 hh];rfl
 ·cases h
structure SameJ(l' l:Li):Prop where
  j:l'.jo=l.jo
  d:l'.dv=l.dv
  b:l'.bo.length=l.bo.length
section
variable{l' l:Li}(h:SameJ l' l)
include h
theorem SameJ.jointI(kind body:Int)(oth:List Bool):jointI l' kind body oth=jointI l kind body oth:=by unfold Lw.jointI;rw[h.j]
theorem SameJ.freeB(k:List Bool)(i:Int):freeB l' k i=freeB l k i:=by unfold Lw.freeB mx;rw[h.d]
theorem SameJ.drHit(k:List Bool)(i:Nat):drHit l' k i=drHit l k i:=by unfold Lw.drHit;simp only[h.d,h.jointI]
theorem SameJ.driverG(k:List Bool):driverG l' k=driverG l k:=by unfold Lw.driverG;simp only[h.d,h.jointI,h.drHit]
theorem SameJ.prHit(k:List Bool)(i j:Nat):prHit l' k i j=prHit l k i j:=by unfold Lw.prHit;simp only[h.freeB,h.jointI,h.b]
theorem SameJ.prAt(k:List Bool)(i:Nat):prAt l' k i=prAt l k i:=by unfold Lw.prAt;simp only[h.prHit,h.b]
theorem SameJ.prG(k:List Bool)(i j:Nat):prG l' k i j=prG l k i j:=by unfold Lw.prG;simp only[h.jointI,h.b]
theorem SameJ.pairG(k:List Bool):pairG l' k=pairG l k:=by unfold Lw.pairG;simp only[h.prAt,h.prG,h.b]
theorem SameJ.sgHit(k:List Bool)(i:Nat):sgHit l' k i=sgHit l k i:=by unfold Lw.sgHit;simp only[h.freeB,h.jointI]
theorem SameJ.sgG(k:List Bool)(i:Nat):sgG l' k i=sgG l k i:=by unfold Lw.sgG;simp only[h.jointI,h.j]
theorem SameJ.singleG(k:List Bool):singleG l' k=singleG l k:=by
 unfold Lw.singleG;have e:Lw.sgG l' k=Lw.sgG l k:=funext (h.sgG k);simp only[h.sgHit,h.b,e]
theorem SameJ.nextG(k:List Bool):nextG l' k=nextG l k:=by unfold Lw.nextG;rw[h.driverG,h.pairG,h.singleG]
theorem SameJ.findFrom:∀(n:Nat)(k:List Bool)(out:List Gr),findFrom l' n k out=findFrom l n k out
 |0,k,out=>rfl
 |n+1,k,out=>by
  unfold Lw.findFrom;rw[h.nextG];cases Lw.nextG l k with
  |none=>rfl
  |some g=>exact SameJ.findFrom n _ _
theorem SameJ.findG:findG l'=findG l:=by unfold Lw.findG;rw[h.b,h.findFrom]
theorem SameJ.splitE:splitE l'=splitE l:=by unfold Lw.splitE bS d8;rw[h.findG,h.b,h.j]
theorem SameJ.splitG:splitG l'=splitG l:=by unfold Lw.splitG;rw[h.splitE,h.findG]
end
theorem E5(l:Li):SameJ (dL l) l:=⟨rfl,rfl,o8 l⟩
def oM(xs:List Tn):Nat:=eD (xs.map Tn.err)
def BR(xs:List Tn):List Tn:=if oM xs=0 then xs.map jF else[]
def TQ:Tn:=⟨⟨false,[],[]⟩,false⟩
def xj(x:Tn):Tn:=if x.err=0 then jF x else TQ
def Fv:Li:=⟨⟨#[]⟩,[],[],[]⟩
def yq(l:Li):Li:=if aA l=0 then dL l else Fv
theorem GE{l:Li}(h:aA l=0):yq l=dL l:=Yl h
theorem PN{l:Li}(h:aA l≠0):yq l=Fv:=Yk h
theorem JG{xs:List Tn}{i:Nat}{x:Tn}(hx:xs[i]?=some x)(hj:∀y∈xs.take i,y.err=0)(hn:x.err≠0):oM xs=x.err:=AY hx hj hn
theorem DE{xs:List Tn}(h:∀y∈xs,y.err=0):oM xs=0:=o5 h
theorem CC{xs:List Tn}(h:oM xs=0):BR xs=xs.map jF:=Yl h
theorem Sc{xs:List Tn}(h:oM xs≠0):BR xs=[]:=Yk h
theorem S9{x:Tn}{e:Nat}(h:Qb e x.t.q)(he:e<=1000):(jF x).t.ok:=(h.neg.qs oz).ok
theorem Th{l:Li}(h:aA l=0):∀b∈l.bo,b.pts.length<=8:=by
 intro b hb
 have h5:fQ l=0:=by
  unfold aA at h;split at h
  ·cases h
  ·split at h
   ·cases h
   ·split at h
    ·cases h
    ·split at h
     ·rename_i h4;exact absurd h h4
     ·omega
 obtain⟨i,hi⟩:=Yd hb;have h6:=nD h5 i (List.getElem?_eq_some_iff.1 hi).1;unfold dG at h6;rw[aq hi]at h6;split at h6
 ·cases h6
 ·split at h6
  ·cases h6
  ·split at h6
   ·cases h6
   ·rename_i h7;omega
theorem CR{l:Li}(h:aA l=0):l.jo.length<=16/\l.dv.length<=2:=by
 obtain⟨_,h1,h2,_⟩:=cK h;constructor
 ·unfold d6 at h1;split at h1
  ·cases h1
  ·omega
 ·unfold fu at h2;split at h2
  ·cases h2
  ·omega
theorem Qe{m:Mk}(h:m.ok):(iT m).ok:=⟨(h.qx.qs oz).ok,(h.qy.neg.qs oz).ok,by show Qb 1000 (rt m.x.q).q;rw[bV];exact h.qx,by show Qb 1000 (rt (-m.y.q)).q;rw[bV];exact h.qy.neg⟩
theorem MD{b:Bd}(h:b.ok):(jd b).ok:=by
 refine⟨fun m hm=>?_,fun m hm=>?_,?_,h.name⟩
 ·obtain⟨m',hm',rfl⟩:=List.mem_map.1 hm;exact Qe (h.pts m' hm')
 ·obtain⟨m',hm',rfl⟩:=List.mem_map.1 hm;exact h.names m' hm'
 ·show(b.pts.map iT).length<=_;rw[XA];exact h.ll
theorem H3{l:Li}(h:l.ok):(dL l).ok:=by
 refine⟨h.name,fun b hb=>?_,h.jnames,h.dnames,?_,h.lj,h.ld⟩
 ·obtain⟨b',hb',rfl⟩:=List.mem_map.1 hb;exact MD (h.bo b' hb')
 ·show(l.bo.map jd).length<=_;rw[XA];exact h.lb
def Jt.vs(j:Jt):List Value:=[.string j.name,.int .i64 j.kind,.int .i64 j.a,.int .i64 j.point,.int .i64 j.b,.int .i64 j.on,.int .i64 j.to]
def Dr.vs(d:Dr):List Value:=[.string d.name,.int .i64 d.body]
structure Gr.sm(g:Gr):Prop where
  b:g.bo.length<=100
  j:g.jo.length<=100
theorem ra{l:Li}(hl:aA l=0):(∀g∈splitG l,g.sm)/\(splitG l).length<=100:=by
 refine⟨fun g hg=>?_,?_⟩
 ·obtain⟨_,ho⟩:=oY hl hg;have:=ho.lb;have:=ho.lj
  exact⟨by omega,by omega⟩
 ·unfold splitG;split
  ·have:=(pH hl).2;omega
  ·exact XJ _
abbrev wb:List AV:=[.v (.string ⟨#[]⟩),nS,nS,nS]
theorem pv{α β:Type}{f:α->β}{g:β->AV}{l:List α}{i:Nat}{x:α}(h:l[i]?=some x):((l.take (i+1)).map f).map g=((l.take i).map f).map g++[g (f x)]:=by
 rw[dR h,XQ,XQ];rfl
theorem kD{α β:Type}{f:α->β}{g:β->AV}{l:List α}{i:Nat}(h:i<=l.length):(((l.take i).map f).map g).length=i:=by rw[XA,XA,XO];omega
theorem uB{β:Type}{g:β->AV}{l:List β}{i:Nat}(h:i<=l.length):((l.take i).map g).length=i:=by rw[XA,XO];omega
theorem Ge(x:Rt)(hx:x.ok):FP 120 [x.av] (qA x.q):=by
 have hadd:=ni x (rt 0) hx Qs.zero.ok;rw[rE]at hadd;refine aj func120 ?_;refine gc (Con.sA (.cons (.refl _) (.cons jx .nil)) hadd) ?_;refine af ?_;rfl
theorem Ta(e:AV)(es:List AV)(hc:∀x∈e::es,x.cells.length=7)(hl:(e::es).length<=1000):FP 118 [.lst 7 (e::es)] (.lst 7 (e::es)):=by
 refine aj func118 ?_;refine gs (xy (.tmp rfl) (by kernel_rfl) rfl) ?_;refine gC (fun t4=>?_) (fun t4=>?_) (st1:=(2,0));cases t4;refine gs (iK T23 rfl T75 rfl rfl rfl) ?_;refine gs (oJ (.tmp rfl) rfl rfl (.tmp rfl) T23 rfl T75 rfl rfl (by simp only[];omega) rfl rfl) ?_;refine af ?_;rfl
theorem MZ(e:AV)(es:List AV)(hc:∀x∈e::es,x.cells.length=2)(hl:(e::es).length<=1000):FP 119 [.lst 2 (e::es)] (.lst 2 (e::es)):=by
 refine aj func119 ?_;refine gs (xy (.tmp rfl) (by kernel_rfl) rfl) ?_;refine gC (fun t4=>?_) (fun t4=>?_) (st1:=(2,0));cases t4;refine gs (iK T24 rfl T185 rfl rfl rfl) ?_;refine gs (oJ (.tmp rfl) rfl rfl (.tmp rfl) T24 rfl T185 rfl rfl (by simp only[];omega) rfl rfl) ?_;refine af ?_;rfl
theorem MO(a:Option Addr)(cap:Nat):FP 118 [.v (.slice a 0 cap)] (.lst 7 []):=by
 refine aj func118 ?_;refine gs (vN (.tmp rfl) (by kernel_rfl) rfl) ?_;refine gC (fun t4=>?_) (fun t4=>?_) (st2:=(77777,0))
 ·refine gR ?_;exact dF (Sub.nil _ _ _)
 refine gW (Wk.of (sl:=[(0,some (.lst 7 []))]) (hp:=[]) (.cons rfl (Sub.nil _ _ _) .nil) .nil) ?_;refine gs (iK T23 rfl T75 rfl rfl rfl) ?_;refine gs (oJ (.tmp rfl) rfl rfl (.tmp rfl) T23 rfl T75 rfl rfl (by simp) rfl rfl) ?_;refine af ?_;rfl
theorem Q8(a:Option Addr)(cap:Nat):FP 119 [.v (.slice a 0 cap)] (.lst 2 []):=by
 refine aj func119 ?_;refine gs (vN (.tmp rfl) (by kernel_rfl) rfl) ?_;refine gC (fun t4=>?_) (fun t4=>?_) (st2:=(77777,0))
 ·refine gR ?_;exact dF (Sub.nil _ _ _)
 refine gW (Wk.of (sl:=[(0,some (.lst 2 []))]) (hp:=[]) (.cons rfl (Sub.nil _ _ _) .nil) .nil) ?_;refine gs (iK T24 rfl T185 rfl rfl rfl) ?_;refine gs (oJ (.tmp rfl) rfl rfl (.tmp rfl) T24 rfl T185 rfl rfl (by simp) rfl rfl) ?_;refine af ?_;rfl
theorem WB(es:List AV)(hc:∀x∈es,x.cells.length=7)(hl:es.length<=1000):FP 118 [.lst 7 es] (.lst 7 es):=by
 cases es with
 |nil=>exact HF MO
 |cons e es=>exact Ta e es hc hl
theorem Km(es:List AV)(hc:∀x∈es,x.cells.length=2)(hl:es.length<=1000):FP 119 [.lst 2 es] (.lst 2 es):=by
 cases es with
 |nil=>exact HF Q8
 |cons e es=>exact MZ e es hc hl
theorem N3(l:Li)(h1:aA l=0):FP 118 [.lst 7 (l.jo.map Jt.av)] (.lst 7 (l.jo.map Jt.av)) :=
 WB _ (fun x hx=>by obtain⟨j,_,rfl⟩:=List.mem_map.1 hx;rfl) (by rw[XA];have:=(CR h1).1;omega)
theorem Nu(l:Li)(h1:aA l=0):FP 119 [.lst 2 (l.dv.map Dr.av)] (.lst 2 (l.dv.map Dr.av)) :=
 Km _ (fun x hx=>by obtain⟨j,_,rfl⟩:=List.mem_map.1 hx;rfl) (by rw[XA];have:=(CR h1).2;omega)
theorem Mf(l:Li)(hl:l.ok):FP 46 [l.av] (.tup [(yq l).av,br (aA l)]):=by
 refine aj func46 ?_;refine gc (uY l hl) ?_;refine gC (fun t14=>?_) (fun t14=>?_)
 ·have h1:=cU t14;refine gR ?_;exact vr (by rw[PN h1];exact Sub.agg (.cons (.refl _) (.cons (.nil _ _ _) (.cons (.nil _ _ _) (.cons (.nil _ _ _) .nil)))) rfl) (.refl _)
 have h1:=cS t14;have hll:=(cK h1).2.2.2.1;have hpp:=Th h1;refine gc (N3 l h1) ?_;refine gc (Nu l h1) ?_;refine gD ?_;refine gl ?_;refine gW (Wk.virt 900 2 rfl) ?_;refine aW [2,5,27,28] [2] (fun(i:Nat)=>[(29,some (i64 i))]) (fun i=>[(5,some (.box [.v (.string l.name),.ms 900 2 0 i,.lst 7 (l.jo.map Jt.av),.lst 2 (l.dv.map Dr.av)])),(900,some (.row 2 (((l.bo.take i).map jd).map Bd.av)))]) (fun i=>i<=l.bo.length) (fun i=>l.bo.length-i) 0 (XJ _) ?_ (h2:=(.cons rfl (BlkSub.bL (.cons (.refl _) (.cons (.nM _ _ _) (.cons (.refl _) (.cons (.refl _) .nil)))) rfl) (.k .nil)))
 rintro i hi K1 J1;refine gC (fun t30=>?_) (fun t30=>?_) (st2:=(16,0))
 ·have hin:=a6 t30;obtain⟨b,hb⟩:=aw hin;have hbo:=hl.bo b (Xx hb);have hpl:=hpp b (Xx hb);refine gi (aE hb) ?_;refine gl ?_;refine gW (Wk.virt 901 7 rfl) ?_;refine aW [2,5,8,27,28,29,37,38] [2,5,900] (fun(k:Nat)=>[(39,some (i64 k))]) (fun k=>[(8,some (.box [.v (.string b.name),.ms 901 7 0 k])),(901,some (.row 7 (((b.pts.take k).map iT).map Mk.av)))]) (fun k=>k<=b.pts.length) (fun k=>b.pts.length-k) 0 (XJ _) ?_ (h2:=(.cons rfl (BlkSub.bL (.cons (.refl _) (.cons (.nM _ _ _) .nil)) rfl) (.k .nil)));rintro k hk K2 J2;refine gC (fun t40=>?_) (fun t40=>?_) (st2:=(14,0))
  ·have hkn:=a6 t40;obtain ⟨m,hm⟩:=aw hkn;have hmo:=hbo.pts m (Xx hm);refine gi (aE hm) ?_;refine gc (Ge m.x hmo.x) ?_;refine gc (uh m.y hmo.y) ?_;refine gs (bX (.tmp rfl) rfl (kD oz).symm (.tmp rfl) T171 rfl T175 rfl rfl (by simp only [XK,XM]; omega) rfl rfl) ?_;refine gD ?_ (13,0);refine gW (Wk.of (sl:=[(2,some (.ptr 2 0)),(5,some (.ptr 5 0)),(8,some (.ptr 8 0)),(27,some (.lst 2 (l.bo.map Bd.av))),(28,some (i64 l.bo.length)),(29,some (i64 i)),(37,some (.lst 7 (b.pts.map Mk.av))),(38,some (i64 b.pts.length)),(39,some (i64 k))]) (hp:=[(2,some (.box wb)),(5,some (.box [.v (.string l.name),.ms 900 2 0 i,.lst 7 (l.jo.map Jt.av),.lst 2 (l.dv.map Dr.av)])),(8,some (.box [.v (.string b.name),.ms 55 7 0 (k + 1)])),(900,some (.row 2 (((l.bo.take i).map jd).map Bd.av))),(55,some (.row 7 (((b.pts.take (k + 1)).map iT).map Mk.av)))]) aZ (.k (.k (.k (.k (.cons rfl (BlkSub.of (by rw [pv hm]; rfl)) .nil)))))) ?_ (13,0)
   refine gW (Wk.rk (k:=55) (d:=901) rfl rfl) ?_;refine ga aN ?_;exact aO J2 (k+1) hkn
  have hkn:=bc hk t40;subst hkn;refine gW ((Wk.freeze (k:=901) rfl).trans<|Wk.of (sl:=[(2,some (.ptr 2 0)),(5,some (.ptr 5 0)),(8,some (.ptr 8 0)),(27,some (.lst 2 (l.bo.map Bd.av))),(28,some (i64 l.bo.length)),(29,some (i64 i))]) (hp:=[(2,some (.box wb)),(5,some (.box [.v (.string l.name),.ms 900 2 0 i,.lst 7 (l.jo.map Jt.av),.lst 2 (l.dv.map Dr.av)])),(8,some (.box [.v (.string b.name),.lst 7 ((b.pts.map iT).map Mk.av)])),(900,some (.row 2 (((l.bo.take i).map jd).map Bd.av)))]) aZ (.k (.k (.cons rfl (BlkSub.bL (.cons (.refl _) (.cons (.of (by rw[bJ (kD (XD _)).symm,XP])) .nil)) rfl) (.k .nil))))) ?_
  refine gs (bX (.tmp rfl) rfl (kD oz).symm (.tmp rfl) T22 rfl T173 rfl rfl (by simp only[XK,XM];omega) rfl rfl) ?_ (15,0);refine gW (Wk.of (sl:=[(2,some (.ptr 2 0)),(5,some (.ptr 5 0)),(27,some (.lst 2 (l.bo.map Bd.av))),(28,some (i64 l.bo.length)),(29,some (i64 i))]) (hp:=[(2,some (.box wb)),(5,some (.box [.v (.string l.name),.ms 62 2 0 (i+1),.lst 7 (l.jo.map Jt.av),.lst 2 (l.dv.map Dr.av)])),(62,some (.row 2 (((l.bo.take (i+1)).map jd).map Bd.av)))]) aZ (.k (.k (.cons rfl (BlkSub.of (by rw[pv hb];rfl)) .nil)))) ?_ (15,0)
  refine gW (Wk.rk (k:=62) (d:=900) rfl rfl) ?_;refine ga aN ?_;exact aO J1 (i+1) hin
 have hin:=bc hi t30;subst hin;refine gW ((Wk.freeze (k:=900) rfl).trans<|Wk.of (sl:=[(2,some (.ptr 2 0)),(5,some (.ptr 5 0))]) (hp:=[(2,some (.box wb)),(5,some (.box (dL l).av.cells))]) aZ (.k (.cons rfl (BlkSub.bL (.cons (.refl _) (.cons (.of (by rw[bJ (kD (XD _)).symm,XP];rfl)) (.cons (.refl _) (.cons (.refl _) .nil)))) rfl) .nil))) ?_;refine bp ?_;rw[GE h1,h1];rfl
theorem KZ(x:Tn)(hx:x.t.ok):FP 235 [x.av] (jF x).av:=by
 refine aj func235 ?_;refine gc (uh x.t hx) ?_;refine gD ?_;refine af ?_;rfl
theorem Qw(x:Tn)(hx:x.t.ok):FP 122 [x.av] (.tup [(xj x).av,br x.err]):=by
 refine aj func122 ?_;refine gc (tB x hx) ?_;refine gC (fun t8=>?_) (fun t8=>?_)
 ·have h1:=cU t8;refine gR ?_;exact vr (by unfold xj;rw[Yk h1];exact Sub.agg (.cons (.refl _) (.cons (.nil _ _ _) (.cons (.nil _ _ _) (.cons (.refl _) .nil)))) rfl) (.refl _)
 have h1:=cS t8;refine gc (KZ x hx) ?_;refine bp ?_;unfold xj;rw[Yl h1,h1];rfl
theorem LS(xs:List Tn)(hx:∀x∈xs,x.t.ok)(hl:xs.length<=1000):FP 47 [.lst 4 (xs.map Tn.av)] (.tup [.lst 4 ((BR xs).map Tn.av),br (oM xs)]):=by
 refine aj func47 ?_;refine gl ?_;refine gW (Wk.virt 900 4 rfl) ?_;refine aW [9,10] [] (fun(i:Nat)=>[(4,some (.ms 900 4 0 i)),(11,some (i64 i))]) (fun i=>[(900,some (.row 4 (((xs.take i).map jF).map Tn.av)))]) (fun i=>i<=xs.length/\∀y∈xs.take i,y.err=0) (fun i=>xs.length-i) 0 ⟨XJ _,fun x hx=>by simp at hx⟩ ?_;rintro i ⟨hi,hj⟩ K1 J1;refine gC (fun t12=>?_) (fun t12=>?_) (st2:=(10,0))
 ·have hin:=a6 t12;obtain⟨x,hxx⟩:=aw hin;have hxo:=hx x (Xx hxx);refine gi (aE hxx) ?_;refine gc (Qw x hxo) ?_;refine gC (fun t21=>?_) (fun t21=>?_)
  ·have h2:=cU t21;refine gR ?_;exact vr (by rw[Sc (by rw[JG hxx hj h2];exact h2)];exact Sub.nil _ _ _) (Sub.of (by rw[JG hxx hj h2]))
  have h2:=cS t21;have hm0:xj x=jF x:=Yl h2;rw[hm0];refine gs (bX (.tmp rfl) rfl (kD oz).symm (.tmp rfl) T88 rfl T47 rfl rfl (by simp only[XK,XM];omega) rfl rfl) ?_ (9,0);refine gW (Wk.of (sl:=[(4,some (.ms 26 4 0 (i+1))),(9,some (.lst 4 (xs.map Tn.av))),(10,some (i64 xs.length)),(11,some (i64 i))]) (hp:=[(26,some (.row 4 (((xs.take (i+1)).map jF).map Tn.av)))]) aZ (.cons rfl (BlkSub.of (by rw[pv hxx];rfl)) .nil)) ?_ (9,0);refine gW (Wk.rk (k:=26) (d:=900) rfl rfl) ?_;refine ga aN ?_;exact aO J1 (i+1) ⟨hin,fun z hz=>by rw[dR hxx]at hz;rcases List.mem_append.1 hz with h9 |h9;exact hj z h9;(rw[List.mem_singleton.1 h9];exact h2)⟩
 have hin:=bc hi t12;subst hin;have hz:oM xs=0:=DE (by rw[XP]at hj;exact hj);refine gW ((Wk.freeze (k:=900) rfl).trans<|Wk.of (sl:=[(4,some (.lst 4 ((xs.map jF).map Tn.av)))]) (hp:=[]) (.cons rfl (Sub.of (by rw[bJ (kD (XD _)).symm,XP])) .nil) .nil) ?_;refine bp ?_;rw[CC hz,hz];rfl
theorem Dg(a:List Int)(ha:a.length<=281474976710656):FP 42 [.lst 1 (a.map i64),.lst 1 (a.map i64)] (bl true):=by
 refine aj func42 ?_;refine gl ?_;refine gl ?_;refine gC (fun t10=>?_) (fun t10=>?_) (st1:=(2,0));exact absurd t10 (by simp[aa]);refine aW [0,1] [] (fun(i:Nat)=>[(5,some (i64 i))]) (fun _=>[]) (fun i=>i<=a.length) (fun i=>a.length-i) 0 (XJ _) ?_;rintro i hi K1 J1;refine gl ?_;refine gC (fun t14=>?_) (fun t14=>?_)
 ·have hin:=a6 t14;obtain⟨x,hx⟩:=aw hin;refine gi (aE hx) ?_;refine gi (aE hx) ?_;refine gD ?_;refine gC (fun t25=>?_) (fun t25=>?_) (st1:=(7,0));exact absurd t25 (by simp[aa]);refine ga aN ?_;exact aO J1 (i+1) hin
 refine af ?_;rfl
theorem Ar{l:Li}{xs:List Tn}(h:i7 l xs=true)(hxw:∀x∈xs,x.t.wok):io l=true/\xs.length<=20/\∀x∈xs,x.t.ok:=by
 unfold i7 at h;simp only[XF,decide_eq_true_eq]at h;refine⟨h.1.1,h.1.2,fun x hx=>?_⟩;have h9:=List.all_eq_true.1 h.2.1 x hx;unfold mj at h9;rw[decide_eq_true_eq]at h9;exact(hxw x hx).ok h9.1 h9.2 oz
theorem RL{p:Bool}(h:cond (!true) true (!p)=false):p=true:=by cases p <;> simp_all
theorem Ak{F:Int->Bool}{sg:Bool}{f:Sv->List Aq×Nat}{b:Aq}:∀{S:List Sv},b∈(fp F sg f S).1->∃s∈S,F s.mode=true/\b∈(f s).1
 |[],h=>by cases h
 |s::S,h=>by
  rw[pJ]at h;split at h
  ·obtain⟨x,hx,h2⟩:=Ak h;exact⟨x,X8 _ hx,h2⟩
  ·rename_i hF;have hF:F s.mode = true:=by simpa using hF
   split at h
   ·exact⟨s,X7,hF,h⟩
   ·split at h
    ·exact⟨s,X7,hF,h⟩
    ·rcases List.mem_append.1 h with h |h
     ·exact⟨s,X7,hF,h⟩
     ·obtain⟨x,hx,h2⟩:=Ak h;exact⟨x,X8 _ hx,h2⟩
open Lean.Grind (CommRing)
structure Nxt(l:Li)(kw:List Bool)(g:Gr):Prop where
  b:∀x∈g.bo,kn kw x=false
  j:∀z∈g.jo,∀j,l.jo[z.toNat]?=some j->(j.a∈g.bo\/kn kw j.a=true)/\(j.b∈g.bo\/kn kw j.b=true)
theorem tg{l:Li}{kind b:Int}{kw:List Bool}{bs:List Int}(hb:b∈bs)(h:0<=jointI l kind b kw){j:Jt}(hj:l.jo[(jointI l kind b kw).toNat]?=some j) :
  (j.a∈bs\/kn kw j.a=true)/\(j.b∈bs\/kn kw j.b=true):=by
 obtain⟨i,j',e,h1,_,h2⟩:=wL h;rw[e,X3,h1]at hj;cases hj;rcases h2 with⟨e1,e2⟩ |⟨e1,e2⟩
 ·exact⟨.inl (e1▸hb),.inr e2⟩
 ·exact⟨.inr e2,.inl (e1▸hb)⟩
theorem MP{l:Li}(hl:aA l=0){kw:List Bool}{g:Gr}(h:nextG l kw=some g):Nxt l kw g:=by
 unfold nextG at h;cases h1:driverG l kw with
 |some g' =>
  rw[h1]at h;cases h;unfold driverG at h1;rw[XB]at h1;obtain⟨i,hi,rfl⟩:=h1;obtain⟨h1,h2⟩:=ff hi;unfold drHit at h2;simp only[Bool.not_eq_false',XF,decide_eq_true_eq,Bool.not_eq_true']at h2;refine⟨vI h2.1,fun z hz j hj=>?_⟩;rw[List.mem_singleton.1 hz]at hj;exact tg (by simp) h2.2 hj
 |none =>
  rw[h1]at h;cases h2:pairG l kw with
  |some g' =>
   rw[h2]at h;cases h;have hf:=I9 h2;unfold pairG at h2;rw[XB]at h2;obtain⟨i,hi,h3⟩:=h2;obtain⟨_,h4⟩:=ff hi;split at h3
   ·rename_i k hk;subst h3;unfold prAt at hk;rw [XB] at hk;obtain ⟨k',hk',rfl⟩:=hk;obtain ⟨h5,h6⟩:=ff hk';rw [show i + 1 + k' = k' + (i + 1) by omega] at h6;unfold prHit at h6;simp only [Bool.not_eq_false',XF,decide_eq_true_eq] at h6;obtain ⟨_,⟨j1,j2⟩,j3⟩:=h6;refine ⟨fun x hx=>qQ (hf x hx),fun z hz j hj=>?_⟩;simp only [prG,X6,XV,or_false] at hz;rcases hz with rfl | rfl | rfl
    ·exact tg (by simp[prG]) j1 hj
    ·exact tg (by simp[prG]) j2 hj
    ·obtain⟨n,a2,e,hj2,hkd,ht⟩:=wL j3;rw[e,X3,hj2]at hj;cases hj;obtain⟨i1,i2,_⟩:=cO hl hj2;have i1:=(cW i1).1;have i2:=(cW i2).1;rcases ht with⟨e1,e2⟩ |⟨e1,e2⟩
     ·rw[oq i2 oz oz]at e2;have e2:=of_decide_eq_true e2;exact⟨.inl (by simp[prG,e1]),.inl (by simp[prG,e2])⟩
     ·rw[oq i1 oz oz]at e2;have e2:=of_decide_eq_true e2;exact⟨.inl (by simp[prG,e2]),.inl (by simp[prG,e1])⟩
   ·rename_i hk;rw[hk]at h4;cases h4
  |none =>
   rw[h2]at h;have hf:=H9 (show singleG l kw=some g from h);have h3:singleG l kw=some g:=h;unfold singleG at h3;rw[XB]at h3;obtain⟨i,hi,rfl⟩:=h3;obtain⟨_,h4⟩:=ff hi;unfold sgHit at h4;simp only[Bool.not_eq_false',XF,decide_eq_true_eq]at h4;obtain⟨_,j1,j2⟩:=h4;refine⟨fun x hx=>qQ (hf x hx),fun z hz j hj=>?_⟩;simp only[sgG,X6,XV,or_false]at hz;rcases hz with rfl |rfl
   ·exact tg (by simp[sgG]) j1 hj
   ·exact tg (by simp[sgG]) j2 hj
def z6(l:Li):List Bool->List Gr->Prop
  |_,[]=>True
  |kw,g::gs=>Nxt l kw g/\z6 l (bA kw g.bo) gs
theorem EM{l:Li}(hl:aA l=0):∀(n:Nat)(kw:List Bool)(out:List Gr),∃gs,(findFrom l n kw out).2=out++gs/\z6 l kw gs
 |0,kw,out=>⟨[],(append_nil _).symm,trivial⟩
 |n+1,kw,out=>by
  unfold findFrom;cases hg:nextG l kw with
  |none=>exact⟨[],(append_nil _).symm,trivial⟩
  |some g =>
   obtain⟨gs,e,h⟩:=EM hl n (bA kw g.bo) (out++[g]);refine⟨g::gs,?_,MP hl hg,h⟩;show(findFrom l n (bA kw g.bo) (out++[g])).2=_;rw[e,Ye];rfl
def fA(l:Li)(gs:List Gr)(m:Nat):List Bool:=(gs.take m).foldl (fun k g=>bA k g.bo) (cF l.bo.length 0)
theorem Jx{l:Li}:∀(gs:List Gr)(kw:List Bool),z6 l kw gs->∀(m:Nat)(g:Gr),gs[m]?=some g->Nxt l ((gs.take m).foldl (fun k g=>bA k g.bo) kw) g
 |[],kw,h,m,g,hg=>by simp at hg
 |g0::gs,kw,h,0,g,hg=>by
  rw[List.getElem?_cons_zero]at hg;cases hg;exact h.1
 |g0::gs,kw,h,m+1,g,hg=>by
  rw[List.getElem?_cons_succ]at hg;exact Jx gs _ h.2 m g hg
theorem TD(l:Li)(gs:List Gr)(m:Nat):(fA l gs m).length=l.bo.length:=by
 have:∀(gs:List Gr)(k:List Bool),(gs.foldl (fun k g=>bA k g.bo) k).length=k.length:=by
  intro gs
  induction gs with
  |nil=>intro k;rfl
  |cons g gs ih=>intro k;rw[foldl_cons,ih,jG]
 unfold fA;rw[this,gT]
theorem JS{l:Li}{gs:List Gr}{m:Nat}{g:Gr}(hg:gs[m]?=some g):fA l gs (m+1)=bA (fA l gs m) g.bo:=by
 unfold fA;rw[List.take_add_one,hg,List.foldl_append];rfl
theorem rH{l:Li}{gs:List Gr}{m:Nat}{g:Gr}(hg:gs[m]?=some g)(ok:GrOk l g){b:Int}(h0:0<=b):kn (fA l gs (m+1)) b=(g.bo.any (fun x=>decide (x=b))||kn (fA l gs m) b):=by
 rw[JS hg,yO h0 (fun x hx=>by rw[TD];exact ok.b x hx)]
theorem uU{l:Li}(hl:aA l=0)(hs:splitE l=0){m:Nat}{g:Gr}(hg:(splitG l)[m]?=some g):Nxt l (fA l (splitG l) m) g:=by
 obtain⟨gs,e,h⟩:=EM hl l.bo.length (cF l.bo.length 0) []
 have e2:splitG l=gs:=by
  unfold splitG findG;rw[Yl hs,e];rfl
 rw[e2]at hg ⊢;exact Jx gs _ h m g hg
theorem CS:∀(zs:List (Int×Pq))(bs:List Pq)(b:Int),(∀z∈zs,0<=z.1/\z.1≠b)->0<=b->(zs.foldl (fun k x=>k.set x.1.toNat x.2) bs).getD b.toNat bb=bs.getD b.toNat bb
 |[],bs,b,h,h0=>rfl
 |z::zs,bs,b,h,h0=>by
  rw[foldl_cons,CS zs _ b (fun y hy=>h y (X8 _ hy)) h0];obtain⟨h1,h2⟩:=h z X7;exact ki h1 h0 (Ne.symm h2)
theorem G0{bs:List Pq}{is:List Int}{ps:List Pq}{b:Int}(h:∀x∈is,0<=x)(hb:b∉is)(h0:0<=b):(a7 bs is ps).getD b.toNat bb=bs.getD b.toNat bb :=
 CS _ _ b (fun z hz=>by
  have:=(List.of_mem_zip hz).1;exact⟨h _ this,fun e=>hb (e▸this)⟩) h0
structure WkH(l:Li)(xs:List Tn)(a:Aq):Prop where
  js:∀m g,m<a.ms.length->(splitG l)[m]?=some g->∀z∈g.jo,JH l a.ts a.bs (l.jo.getD z.toNat default)
  cs:∀b:Int,0<=b->kn (fA l (splitG l) a.ms.length) b=true->CH a.ts (a.bs.getD b.toNat bb)
  dr:∀m g,m<a.ms.length->(splitG l)[m]?=some g->g.kind=0->dE a.ts (a.bs.getD (aP g 0).toNat bb).c=qE (de (cz g xs).half (cz g xs).t.q)/\dE a.ts (a.bs.getD (aP g 0).toNat bb).s=qE (db (cz g xs).half (cz g xs).t.q)
  fr:a.bs.getD 0 bb=kc
theorem Ph(T:LL):dE T []=0:=by rw[E.zero_def];exact iW _
theorem WE(T:LL):dE T [1]=1:=kN _ 1
theorem KS{T:LL}(hp:eJ T):CH T kc:=by
 unfold CH kc;dsimp only;rw[WE,Ph,show(1:Et T)*1+0*0-1=0 by grind];exact(ep _ _ hp).zero
theorem Kw{n:Nat}{b:Int}(h0:0<=b)(h:kn (cF n 0) b=true):b=0:=by
 unfold cF at h;rcases F1 h with h |h
 ·rw[vC]at h;cases h
 ·have:(0:Int).toNat=0:=rfl;omega
theorem C5(l:Li)(xs:List Tn)(hb:0<l.bo.length):WkH l xs (eO l):=by
 have e0:(eO l).bs.getD 0 bb=kc:=mn (by rw[X5];exact hb);refine⟨fun m g h=>absurd h (Nat.not_lt_zero _),fun b h0 h=>?_,fun m g h=>absurd h (Nat.not_lt_zero _),e0⟩;have:b=0:=Kw h0 h;subst this;show CH (eO l).ts ((eO l).bs.getD 0 bb);rw[e0];exact KS Do.pos
theorem vM{n e:Nat}{a:List Rat}(h:Nm n e a):a.length<=2^n:=h.nl.le
theorem Pq.ok.nq{n e:Nat}{p:Pq}(h:Pq.ok n e p):Nq n p:=⟨vM h.c,vM h.s,vM h.x,vM h.y⟩
theorem Hc{ts ts' T:LL}(e:ts=ts')(h:Lf ts T):Lf ts' T:=e▸h
section
variable{l:Li}{xs:List Tn}{s g:Nat}(W:WkC l xs s g){gr:Gr}{a:Aq}(hg:(splitG l)[a.ms.length]?=some gr)
variable{j r E:Nat}(Q:QInv l j r E a)
include W hg Q
theorem WkH.step(H:WkH l xs a){sv:Sv}(hs:sv∈eV l a.as gr (cz gr xs)):WkH l xs (a.nxt gr sv):=by
 have tw:=QInv.twl W hg Q;have hq:(Lw.llq a.as.rs)=a.ts:=a.llq;obtain⟨dy,ok⟩:=W.grp hg;have N:=uU W.li W.sp hg
 have hN:∀p∈aK a.as,Nq (Lw.llq a.as.rs).length p:=by
  intro p hp;rw[mW]at hp;rw[hq];exact(Q.bs p hp).nq
 have G:=JY tw hN dy (fun b hb=>by
  rw[mW];have:=ok.b b hb;have:=Q.ln;omega) W.li hs
 rw[mW]at G;have L:Lf a.ts sv.ts:=Hc hq G.1.lf;have js:=G.1.js;have cs:=G.1.cs;rw[mW]at js cs;have hN':∀i,Nq a.ts.length (a.bs.getD i bb):=fun i=>z9 (fun p hp=>(Q.bs p hp).nq) i
 have sam:∀b:Int,0<=b->b∉gr.bo->cV a.bs (a7 a.bs gr.bo sv.ps) a.ts.length b:=fun b h0 hb=>⟨G0 (fun x hx=>(ok.b x hx).1) hb h0,hN' _⟩
 have old:∀b:Int,kn (fA l (splitG l) a.ms.length) b=true->b∉gr.bo:=fun b hk hb=>by
  rw[N.b b hb]at hk;cases hk
 have hml:(a.nxt gr sv).ms.length=a.ms.length+1:=by show(a.ms++[sv.mode]).length=_;simp
 have mono:∀(k m:Nat),m+k<=a.ms.length->∀b:Int,0<=b->kn (fA l (splitG l) m) b=true->kn (fA l (splitG l) (m+k)) b=true:=by
  intro k
  induction k with
  |zero=>intro m _ b _ h;exact h
  |succ k ih =>
   intro m hm b h0 h;have h1:=ih m oz b h0 h;have hlt:m+k<(splitG l).length:=by have:=(List.getElem?_eq_some_iff.1 hg).1;omega
   obtain⟨g2,hg2⟩:=aw hlt;rw[show m+(k+1)=(m+k)+1 by omega,rH hg2 (W.grp hg2).2 h0,h1];simp
 have jn:∀{z:Int}{jt:Jt},l.jo[z.toNat]?=some jt->0<=jt.a/\0<=jt.b:=fun hj=>by
  obtain⟨i1,i2,_⟩:=cO W.li hj;have i1:=cW i1;have i2:=cW i2;omega
 have cE:∀m g2,m<a.ms.length->(splitG l)[m]?=some g2->∀b:Int,0<=b->(b∈g2.bo\/kn (fA l (splitG l) m) b=true)->b∉gr.bo:=by
  intro m g2 hm hg2 b h0 hb;refine old b ?_
  have h1:kn (fA l (splitG l) (m+1)) b=true:=by
   rw[rH hg2 (W.grp hg2).2 h0];rcases hb with hb |hb
   ·have : g2.bo.any (fun x => decide (x = b)) = true := by rw [List.any_eq_true]; exact ⟨b, hb, by simp⟩
    rw[this];rfl
   ·rw[hb];simp
  have:=mono (a.ms.length-(m+1)) (m+1) oz b h0 h1
  rwa [show m+1+(a.ms.length-(m+1))=a.ms.length by omega]at this
 refine⟨?_,?_,?_,?_⟩
 ·intro m g2 hm hg2 z hz;rw[hml]at hm;show JH l sv.ts (a7 a.bs gr.bo sv.ps) _
  by_cases e:m=a.ms.length
  ·subst e;rw[hg]at hg2;cases hg2;exact js z hz
  ·obtain⟨jt,hj⟩ := aw (l := l.jo) (i := z.toNat) (by have := (W.grp hg2).2.j z hz;omega);have hjz:l.jo[z.toNat]?=some jt:=hj;have H1:=H.js m g2 oz hg2 z hz;rw[aq hj]at H1 ⊢;have N2:=uU W.li W.sp hg2;obtain⟨na,nb⟩:=N2.j z hz jt hj;obtain⟨a0,b0⟩:=jn hjz;exact L.jh (sam _ a0 (cE m g2 oz hg2 _ a0 na)) (sam _ b0 (cE m g2 oz hg2 _ b0 nb)) H1
 ·intro b h0 hk;rw[hml,rH hg ok h0]at hk;show CH sv.ts ((a7 a.bs gr.bo sv.ps).getD b.toNat bb)
  by_cases hb:b∈gr.bo
  ·exact cs b hb
  ·have:gr.bo.any (fun x=>decide (x=b))=false:=by
    cases h:gr.bo.any (fun x=>decide (x=b))with
    |false=>rfl
    |true =>
     rw[List.any_eq_true]at h;obtain⟨x,hx,e⟩:=h;exact absurd ((of_decide_eq_true e)▸hx) hb
   rw[this,Bool.false_or]at hk;have S:=sam b h0 hb;rw[S.1];exact L.ch S.2 (H.cs b h0 hk)
 ·intro m g2 hm hg2 hk;rw[hml]at hm;show dE sv.ts ((a7 a.bs gr.bo sv.ps).getD (aP g2 0).toNat bb).c=_/\dE sv.ts ((a7 a.bs gr.bo sv.ps).getD (aP g2 0).toNat bb).s=_
  by_cases e:m=a.ms.length
  ·subst e;rw[hg]at hg2;cases hg2;exact G.2 hk
  ·obtain⟨h1,h2⟩:=H.dr m g2 oz hg2 hk
   have hb:aP g2 0∈g2.bo:=by
    have:=(W.grp hg2).1;cases this with
    |drv=>exact X7
    |rrr=>exact absurd hk (by simp)
    |pr=>exact absurd hk (by simp)
    |rp=>exact absurd hk (by simp)
   have h0:=((W.grp hg2).2.b _ hb).1;have S:=sam _ h0 (cE m g2 oz hg2 _ h0 (.inl hb));obtain⟨n1,n2,_⟩:=S.2;rw[S.1,<- L.low _ n1,<- L.low _ n2,h1,h2,L.q,L.q];exact⟨rfl,rfl⟩
 ·show(a7 a.bs gr.bo sv.ps).getD (0:Int).toNat bb=kc
  have h0:(0:Int)∉gr.bo:=by
   refine old 0 ?_
   have hs:=mono a.ms.length 0 oz 0 oz (by
    show kn (cF l.bo.length 0) 0=true;rw[oq oz oz (by have:=(cK W.li).2.2.2;omega)];rfl)
   rwa [Nat.zero_add]at hs
  rw[(sam 0 oz h0).1];exact H.fr
end
end Go.Lw
namespace Go.Lw
theorem IA{F:Int->Bool}{sg:Bool}{f:Sv->List Aq×Nat}{b:Aq}:∀{S:List Sv},b∈(fp F sg f S).1->∃s∈S,b∈(f s).1:=by
 intro S h;obtain⟨s,hs,_,h2⟩:=Ak h;exact⟨s,hs,h2⟩
theorem zM{l:Li}{xs:List Tn}{s g:Nat}(W:WkC l xs s g){F:Nat->Int->Bool}{sg:Bool}:∀(n:Nat)(a:Aq),WkSt l s g n a->WkH l xs a->∀b∈(gh F sg l xs (splitG l) n a).1,WkSt l s g 0 b/\WkH l xs b
 |0,a,h,H,b,hb=>by rw[List.mem_singleton.1 hb];exact⟨h,H⟩
 |n+1,a,h,H,b,hb=>by
  obtain⟨gr,hg,_,hP,hn⟩:=h.next W;obtain⟨⟨j,r,E,y,Q,ok,hc⟩,hl⟩:=h;unfold gh at hb;rw[aq hg]at hb;split at hb
  ·cases hb
  ·obtain⟨sv,hsv,h2⟩:=IA hb;exact zM W n _ (hn sv hsv) (WkH.step W hg Q H hsv) b h2
structure AqFin(l:Li)(xs:List Tn)(a:Aq):Prop where
  li:aA l=0
  lx:xs.length=l.dv.length
  xo:∀x∈xs,x.err=0/\Qb 1000 x.t.q/\x.t.ok
  tw:∃r,r<=400000000/\Tw a.ts r
  two:a.ts.length<=2
  bs:∀p∈a.bs,Pq.ok a.ts.length 3200000000 p
  ln:a.bs.length=l.bo.length
  lm:a.ms.length<=100
  js:∀j∈l.jo,JH l a.ts a.bs j
  cs:∀i,i<l.bo.length->CH a.ts (a.bs.getD i bb)
  dr:∀i d,l.dv[i]?=some d->dE a.ts (a.bs.getD d.body.toNat bb).c=qE (de (xs.getD i cZ).half (xs.getD i cZ).t.q)/\dE a.ts (a.bs.getD d.body.toNat bb).s=qE (db (xs.getD i cZ).half (xs.getD i cZ).t.q)
  fr:a.bs.getD 0 bb=kc
theorem I3{f:Gr->List Int}:∀(gs:List Gr)(k:List Bool)(b:Int),kn (gs.foldl (fun k g=>bA k (f g)) k) b=true->kn k b=true\/∃g∈gs,∃x∈f g,x.toNat=b.toNat
 |[],k,b,h=>.inl h
 |g::gs,k,b,h=>by
  rw[foldl_cons]at h;rcases I3 gs _ b h with h |⟨g',hg,x,hx,e⟩
  ·rcases BA _ h with h |⟨x,hx,e⟩
   ·exact .inl h
   ·exact .inr ⟨g,X7,x,hx,e⟩
  ·exact .inr ⟨g',X8 _ hg,x,hx,e⟩
theorem G6{k:List Bool}(h:(eH k).length=0){i:Nat}(hi:i<k.length):kn k (i:Int)=true:=by
 rw[wa]at h;unfold kn;rw[Xy,XC (by omega:(i:Int).toNat<k.length)];show k[(i:Int).toNat]=true;cases hv:k[(i:Int).toNat]'oz with
 |true=>rfl
 |false =>
  exfalso;have hm:false∈k:=hv▸List.getElem_mem _;rw[<- List.contains_iff_mem]at hm;rw[hm]at h;cases h
theorem Ch(f:Gr->List Int):∀(gs:List Gr)(k:List Bool),(gs.foldl (fun k g=>bA k (f g)) k).length=k.length
 |[],k=>rfl
 |g::gs,k=>by rw[foldl_cons,Ch f gs,jG]
theorem UV{l:Li}(hs:splitE l=0):(eH (bS l)).length=0/\(eH (d8 l)).length=0/\splitG l=findG l:=by
 have h9:(eH (bS l)).length+(eH (d8 l)).length=0:=by
  unfold splitE at hs;split at hs
  ·assumption
  ·cases hs
 exact⟨by omega,by omega,by unfold splitG;rw[Yl hs]⟩
theorem FV{l:Li}{xs:List Tn}{s g:Nat}(W:WkC l xs s g){a:Aq}(h:WkSt l s g 0 a)(H:WkH l xs a):AqFin l xs a:=by
 obtain⟨⟨j,r,E,y,Q,ok,_⟩,hl⟩:=h;obtain⟨hE,hr,hj⟩:=ED ok;obtain⟨r1,r2,r3⟩:=UV W.sp;have h1:=Q.lv;have h4:=so W.li;refine⟨W.li,W.ln,fun x hx=>⟨(W.ok x hx).2.1,(W.ok x hx).2.2.1,(W.ok x hx).1⟩,⟨r,hr,Q.tw⟩,by omega,fun p hp=>(Q.bs p hp).up (XD _) Q.tw.five hE,Q.ln,by omega,?_,?_,?_,H.fr⟩
 ·intro jt hjt;obtain ⟨i,hi⟩:=Yd hjt;have hil:=(List.getElem?_eq_some_iff.1 hi).1;have hlen:(d8 l).length = l.jo.length:=by unfold d8; rw [Ch Gr.jo,X5]
  have hk:=G6 r2 (i:=i) oz;unfold d8 at hk;rcases I3 (f:=Gr.jo) _ _ _ hk with h9 |⟨gr,hg,z,hz,e⟩
  ·rw[vC]at h9;cases h9
  ·rw[<- r3]at hg;obtain⟨m,hm⟩:=Yd hg;have hml:=(List.getElem?_eq_some_iff.1 hm).1;have hJ:=H.js m gr oz hm z hz;rw[e,X3,aq hi]at hJ;exact hJ
 ·intro i hi;have hlen:(bS l).length = l.bo.length:=by unfold bS; rw [Ch Gr.bo,gT]
  have hk:=G6 r1 (i:=i) oz
  have e:bS l=fA l (splitG l) a.ms.length:=by
   unfold fA bS;rw[r3]at hl ⊢;rw[XR oz]
  rw[e]at hk;have:=H.cs i oz hk
  rwa [X3]at this
 ·intro i d hd;obtain ⟨gr,hg,hk,hb⟩:=DB W.li W.sp d (Xx hd);obtain ⟨m,hm⟩:=Yd hg;have hml:=(List.getElem?_eq_some_iff.1 hm).1;have hD:=H.dr m gr oz hm hk;have eb:aP gr 0 = d.body:=by unfold aP; rw [hb]; rfl
  have hdy:=(W.grp hm).1
  have ed:gr.driver=(i:Int):=by
   cases hdy with
   | @drv b z dd jt x t d0 hd2 hxb =>
    have e2:x.body=d.body:=hxb.trans (by simpa using hb);rcases Nat.lt_trichotomy dd.toNat i with h9 |h9 |h9
    ·exact absurd e2 ((wE W.li hd).2 _ x h9 hd2)
    ·show dd=(i:Int);omega
    ·exact absurd e2.symm ((wE W.li hd2).2 _ d h9 hd)
   |rrr=>exact absurd hk (by simp)
   |pr=>exact absurd hk (by simp)
   |rp=>exact absurd hk (by simp)
  have et:cz gr xs=xs.getD i cZ:=by unfold cz;rw[Yl hk,ed,X3]
  rw[eb,et]at hD;exact hD
theorem QC{l:Li}(hl:l.ok){xs:List Tn}(hL:i7 l xs=true)(hxw:∀x∈xs,x.t.wok){A:List Aq}{e:Nat}(h:jc l xs=(A,e)):∀a∈A,AqFin l xs a:=by
 by_cases h0:cJ l xs=0
 ·obtain⟨s,g,W,St⟩:=uW hL hl hxw h0;have hb:=(cK W.li).2.2.2;have hw:=zM W (F:=ia) (sg:=false) (splitG l).length (eO l) St (C5 l xs oz);unfold jc at h;rw[Yk (fun h=>h h0)]at h;intro a ha;split at h
  ·cases h;cases ha
  ·have e1:(mb ia false l xs).1=A:=congrArg Prod.fst h;rw[<- e1]at ha;obtain⟨h1,h2⟩:=hw a ha;exact FV W h1 h2
 ·unfold jc at h;rw[Yl h0]at h;cases h;intro a ha;cases ha
end Go.Lw
