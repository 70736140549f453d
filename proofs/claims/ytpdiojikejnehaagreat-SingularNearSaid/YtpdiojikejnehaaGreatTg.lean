/- SingularNear: for any linkage and any turns the law returns true and leaves its arguments as they were. No other condition. Part 7 of 8: what the later parts need -/
import Derived.Test.YtpdiojikejnehaaGreatTf
set_option linter.unusedVariables false
open List (mem_append foldl_cons nil_append append_nil map_nil map_map)
open List renaming mem_of_getElem? → WU, mem_cons_of_mem → Xw, map_cons → XH, mem_cons → Xu, length_cons → W9, mem_cons_self → Xv, length_append → Xo, length_nil → Xi, getD_eq_getElem?_getD → WV, all_eq_true → Xx, getElem?_take → Xp, getElem?_map → W0, append_assoc → XD, getElem?_eq_getElem → WY, getElem?_replicate → Xq, map_append → Xl, length_take → Xh, take_of_length_le → Xb, drop_zero → XG, take_length → Xg, not_mem_nil → Xf, length_map → WW, getElem?_of_mem → XC, length_replicate → Xt, map_replicate → XB, map_set → XF, length_set → XI
open Nat renaming eq_of_beq_eq_true → W5, le_refl → WZ, lt_or_ge → W3, le_trans → Xj, mul_le_mul_right → Xn, zero_le → W7, pow_add → XA, lt_of_le_of_lt → Xm
open Option renaming map_eq_some_iff → WX
open Bool renaming and_eq_true → W4, or_eq_true → XE
open Int renaming toNat_natCast → Xk
open Go.Proofs.Tryz
namespace Go.Lw
theorem xV(r:(k:Nat)->T k)(q:Rat):∀(k:Nat){a c:List Rat},(∀i,i<2^k->c.getD i 0=q*a.getD i 0)->ae k c=T.mul r k (T.ofQ k q) (ae k a)
 |0,a,c,h=>h 0 (by decide)
 |k+1,a,c,h=>by
  have h1:=xV r q k (a:=a.take (2^k)) (c:=c.take (2^k)) (fun i hi=>by rw[kD,kD,XK hi,XK hi];exact h i (by rw[Nat.pow_succ];omega));have h2:=xV r q k (a:=a.drop (2^k)) (c:=c.drop (2^k)) (fun i hi=>by rw[kH,kH];exact h _ (by rw[Nat.pow_succ];omega));show(ae k (c.take (2^k)),ae k (c.drop (2^k)))=T.mul r (k+1) (T.ofQ k q,T.zero k) (ae k (a.take (2^k)),ae k (a.drop (2^k)));rw[T.mul_comm,T.mul_half,h1,h2,T.mul_comm r k (ae k (a.take _)),T.mul_comm r k (ae k (a.drop _))]
section
variable{ts:LL}
def Bz(e:Nat)(x:Et ts):Prop:=Nm ts.length e (sX x)
theorem Bz.mono{e f:Nat}{x:Et ts}(h:Bz e x)(hf:e<=f):Bz f x:=Nm.mono h hf
theorem Bz.add{e f:Nat}{x y:Et ts}(hx:Bz e x)(hy:Bz f y):Bz (e+f+1) (x+y):=Nm.addT hx hy
theorem Bz.sub{e f:Nat}{x y:Et ts}(hx:Bz e x)(hy:Bz f y):Bz (e+f+1) (x-y):=Nm.subT hx hy
theorem Bz.neg{e:Nat}{x:Et ts}(hx:Bz e x):Bz e (-x):=Nm.negT hx
theorem Bz.mul{r K e f:Nat}(tw:Tw ts r)(hK:eB r ts.length<=K){x y:Et ts}(hx:Bz e x)(hy:Bz f y):Bz (e+f+K) (x*y):=by
 have h:=Nm.mul tw rfl hx hy;have e1:∀z:Et ts,ae ts.length (sX z)=z:=fun z=>bf _ _
 rw[e1,e1]at h;exact Nm.mono h (Nat.add_le_add_left hK _)
theorem Bz.q{e:Nat}{q:Rat}(h5:ts.length<=5)(hq:Cb e [q]):Bz e (qE q:Et ts):=by
 unfold Bz;rw[rV];exact Nm.ofQ h5 hq
theorem Bz.qm{e f:Nat}{q:Rat}{x:Et ts}(hq:Cb e [q])(hx:Bz f x):Bz (e+f) (qE q*x):=by
 obtain⟨D,N,h1,h2,h3⟩:=hq;obtain⟨D',N',k1,k2,k3⟩:=hx.cb;obtain⟨n,hn,hN⟩:=h1.2 q (List.mem_singleton.2 rfl);have hx2:ae ts.length (sX x)=x:=bf _ _
 have hd:ae ts.length ((sX x).map (q*·))=T.mul (ay ts) ts.length (T.ofQ ts.length q) (ae ts.length (sX x)):=xV _ q _ (fun i _=>by
  rw[WV,W0,WV];cases(sX x)[i]? with
  |none=>exact(Rat.mul_zero q).symm
  |some v=>rfl)
 rw[hx2]at hd
 have hc:Cb (e+f) ((sX x).map (q*·)):=by
  refine⟨D*D',N*N',⟨Nat.mul_pos h1.1 k1.1,?_⟩,?_,?_⟩
  ·intro z hz;obtain⟨y,hy,rfl⟩:=List.mem_map.1 hz;obtain⟨m,hm,hM⟩:=k1.2 y hy;refine⟨n*m,?_,?_⟩
   ·rw[Int.natCast_mul,Rat.intCast_mul,Rat.intCast_mul,<- hn,<- hm];grind
   ·rw[Int.natAbs_mul];exact Nat.mul_le_mul hN hM
  ·rw[XA];exact Nat.mul_le_mul h2 k2
  ·rw[XA];exact Nat.mul_le_mul h3 k3
 have hnl:Nl ts.length ((sX x).map (q*·)):=by
  rcases hx.nl with h |⟨j,hj,h⟩
  ·exact .inl (by rw[h];rfl)
  ·exact .inr ⟨j,hj,by rw[WW];exact h⟩
 refine⟨hx.five,eH _ _,?_⟩;have:=hc.sh hnl;rw[hd]at this;exact this
theorem Bz.mq{e f:Nat}{q:Rat}{x:Et ts}(hx:Bz f x)(hq:Cb e [q]):Bz (e+f) (x*qE q):=by
 rw[show x*qE q=qE q*x by grind];exact hx.qm hq
theorem Bz.iq{e f:Nat}{q:Rat}{x:Et ts}(hx:Bz f x)(hq:Cb e [q])(h0:q≠0):Bz (e+f) (x*iE (qE q)):=by
 have h:(iE (qE q):Et ts)=qE (1/q):=vl _ _ q;rw[h];exact hx.mq (hq.inv1 h0)
theorem Bz.iv{r f j I:Nat}{y:Et ts}(tw:Tw ts r)(hy:Bz f y)(nb:Nl j (sX y))(hj:j<=ts.length)(h0:ak y≠0)(hI:iB r j f<=I)(hs:I<=50000000000):Bz I (iE y):=by
 have hf:=zZ r j f;have hl:=jY ts.length;have e1:ae ts.length (sX y)=y:=bf _ _;obtain⟨L,_,k2,k3,k4⟩:=Ad (b:=sX y) tw hy hj nb (by rw[e1];exact h0) oz oz;rw[e1]at k4;have:=k3.sh k2;rw[k4]at this;exact⟨tw.five,eH _ _,this.mono hI⟩
structure Pz(n ec ex:Nat)(p:Pq):Prop where
  c:Nm n ec p.c
  s:Nm n ec p.s
  x:Nm n ex p.x
  y:Nm n ex p.y
theorem Pz.mono{n n' a b a' b':Nat}{p:Pq}(h:Pz n a b p)(hn:n<=n')(h5:n'<=5)(ha:a<=a')(hb:b<=b'):Pz n' a' b' p :=
 ⟨⟨h5,h.c.nl.mono hn,h.c.cb.mono ha⟩,⟨h5,h.s.nl.mono hn,h.s.cb.mono ha⟩,⟨h5,h.x.nl.mono hn,h.x.cb.mono hb⟩,⟨h5,h.y.nl.mono hn,h.y.cb.mono hb⟩⟩
theorem FN{s t e f:Nat}{u p:Rat×Rat}{w o:P2 ts}(hu:Sm t u)(hp:Sm s p)(h0:bW u u≠0)(w1:Bz e w.1)(w2:Bz e w.2)(o1:Bz f o.1)(o2:Bz f o.2) :
  Pz ts.length (2*e+6*t+2) (f+4*e+12*t+2*s+6) (gz u w p o):=by
 have u1:=Cb.one hu.x;have u2:=Cb.one hu.y;have p1:=Cb.one hp.x;have p2:=Cb.one hp.y;have n:=Cb.one (hu.dot hu);have c:=(((w1.qm u1).add (w2.qm u2)).iq n h0).mono (f:=2*e+6*t+2) oz;have d:=(((w2.qm u1).sub (w1.qm u2)).iq n h0).mono (f:=2*e+6*t+2) oz;exact⟨c,d,(o1.sub ((c.mq p1).sub (d.mq p2))).mono oz,(o2.sub ((d.mq p1).add (c.mq p2))).mono oz⟩
theorem pu{a:List Rat}{e:Nat}(h:Nm ts.length e a):Bz e (dE ts a):=by
 have:=h.cb.sh h.nl;exact⟨h.five,eH _ _,this⟩
theorem OK{s f:Nat}{p:Rat×Rat}{c d:Rat}{o:P2 ts}{g:Nat}(hc:Cb g [c])(hd:Cb g [d])(hp:Sm s p)(h5:ts.length<=5)(o1:Bz f o.1)(o2:Bz f o.2) :
  Pz ts.length (g+1) (f+2*g+2*s+4) (gz (((1:Int):Rat),0) ((qE c,qE d):P2 ts) p o):=by
 have e0:∀x:Et ts,(qE ((1:Int):Rat):Et ts)*x=x:=fun x=>by
  have:(qE ((1:Int):Rat):Et ts)=1:=rfl;rw[this];grind
 have e1:∀x:Et ts,(qE (0:Rat):Et ts)*x=0:=fun x=>by
  have:(qE (0:Rat):Et ts)=0:=rfl;rw[this];grind
 have e2:(iE (jR (((1:Int):Rat),0)):Et ts)=1:=by
  show iE (qE (bW (((1:Int):Rat),0) (((1:Int):Rat),0)))=_;rw[show bW (((1:Int):Rat),(0:Rat)) (((1:Int):Rat),(0:Rat))=1 by decide +kernel];exact Bf
 have ec:dg (((1:Int):Rat),0) ((qE c,qE d):P2 ts)=qE c:=by
  unfold dg;rw[e0,e1,e2];grind
 have ed:db (((1:Int):Rat),0) ((qE c,qE d):P2 ts)=qE d:=by
  unfold db;rw[e0,e1,e2];grind
 have p1:=Cb.one hp.x;have p2:=Cb.one hp.y;have c1:Bz g (qE c:Et ts):=Bz.q h5 hc;have d1:Bz g (qE d:Et ts):=Bz.q h5 hd;refine⟨?_,?_,?_,?_⟩
 ·show Bz _ (dg _ _);rw[ec];exact c1.mono oz
 ·show Bz _ (db _ _);rw[ed];exact d1.mono oz
 ·show Bz _ (pO _ _ p o);unfold pO;rw[ec,ed];exact(o1.sub ((c1.mq p1).sub (d1.mq p2))).mono oz
 ·show Bz _ (pb _ _ p o);unfold pb;rw[ec,ed];exact(o2.sub ((d1.mq p1).add (c1.mq p2))).mono oz
structure Xz(ts:LL)(r X:Nat)(us:LL):Prop where
  tw:Tw us (r+X)
  up:ts.length<=us.length
  ln:us.length<=ts.length+1
theorem zy{r X:Nat}(tw:Tw ts r)(hx:r+X<=5000000000):Xz ts r X ts:=⟨⟨tw.three,tw.len,tw.pos,tw.rb.mono oz,hx⟩,WZ _,by omega⟩
theorem uY{r X:Nat}(tw:Tw ts r)(hn:ts.length<=1)(hx:r+X<=5000000000){x:Et ts}(h:Bz X x)(hs:0<=ak x):Xz ts r X (aS ts (sX x)) :=
 ⟨Bp tw oz h hx (by rw[show ae ts.length (sX x)=x from bf _ _];exact hs),by rw[dC];omega,by rw[dC];omega⟩
theorem Bz.up{e:Nat}{X x:Et ts}(h:Bz e x)(hn:ts.length<=1):Bz e (aL X x):=by
 have h1:Nm (aS ts (sX X)).length e (sX x):=lY h oz;exact pu h1
structure Szs(n r a b X K K' I J:Nat):Prop where
  n1:n<=1
  hK:eB r n<=K
  hX:24*a+8*K+5*b+23<=X
  hL:r+X<=5000000000
  hK':eB (r+X) (n+1)<=K'
  hI:iB r n (8*a+2*K+8)<=I
  hJ:iB (r+X) n (8*a+2*K+8)<=J
  hJ':J<=50000000000
  kk:K<=K'
  ij:I<=J
theorem Szs.kx{n r a b X K K' I J:Nat}(h:Szs n r a b X K K' I J){us:LL}(hu:us.length<=n+1):eB (r+X) us.length<=K':=Xj (gO _ hu) h.hK'
section
variable{r a b X K K' I J:Nat}(Z:Szs ts.length r a b X K K' I J)(tw:Tw ts r)
include Z tw
theorem AC{p q:P2 ts}(p1:Bz a p.1)(p2:Bz a p.2)(q1:Bz a q.1)(q2:Bz a q.2):Bz (8*a+2*K+5) (dK (aR q p) (aR q p)):=by
 have v1:=q1.sub p1;have v2:=q2.sub p2;exact((v1.mul tw Z.hK v1).add (v2.mul tw Z.hK v2)).mono oz
theorem AZ{y:Et ts}(hy:Bz (8*a+2*K+8) y)(h0:ak y≠0):Bz I (iE y) :=
 hy.iv tw (eH _ _) (WZ _) h0 Z.hI (by have:=Z.ij;have:=Z.hJ';omega)
theorem yC{x y:Et ts}(hx:Bz X x)(hs:0<=ak x)(hy:Bz (8*a+2*K+8) y)(h0:ak y≠0):Bz J (iE (aL x y)):=by
 have E:=uY tw Z.n1 Z.hL hx hs
 have e1:sX (aL x y)=sX y:=by
  have:=(xy (X:=x) Z.n1 _ y hy).2;exact this
 refine(hy.up Z.n1).iv E.tw (j:=ts.length) (by rw[e1];exact eH _ _) E.up (by rw[ox];exact h0) Z.hJ Z.hJ'
theorem zF{x:Et ts}:Bz 1 (dE (aS ts (sX x)) (cr ts.length)):=by have _:=tw;exact pu (tT (by have:=Z.n1;omega))
theorem Th{p q:P2 ts}{z z2:Et ts}(p1:Bz a p.1)(p2:Bz a p.2)(q1:Bz a q.1)(q2:Bz a q.2)(hz:Bz b z)(hz2:Bz b z2)(h0:fg p q z z2=0) :
  Xz ts r X (dY p q z z2).ts/\∀m∈(dY p q z z2).ps,Nm (dY p q z z2).ts.length (13*a+2*b+5*K+2*K'+I+J+20) m.1/\Nm (dY p q z z2).ts.length (13*a+2*b+5*K+2*K'+I+J+20) m.2:=by
 have hn:=Z.n1;have hkk:=Z.kk;have hd:Bz (8*a+2*K+5) (aB p q):=AC Z tw (p:=q) (q:=p) q1 q2 p1 p2;have hm:=(hz.add hd).sub hz2;have q4:Cb 3 [((4:Int):Rat)]:=Cb.int (z:=4) (by decide);have q2':Cb 2 [((2:Int):Rat)]:=Cb.int (z:=2) (by decide);have qm1:Cb 1 [((-1:Int):Rat)]:=Cb.int (z:=-1) (by decide)
 have hX:Bz X (bn p z q z2):=by
  have h:=((hz.mul tw Z.hK hd).qm q4).sub (hm.mul tw Z.hK hm);have h2:=h.mono (f:=X) (by have:=Z.hX;omega);exact h2
 have same:=zy (X:=X) tw Z.hL;have v1:=q1.sub p1;have v2:=q2.sub p2;unfold fg kR at h0;unfold dY lG
 by_cases hs:ak (aB p q)=0
 ·rw[XK hs]at h0 ⊢
  by_cases hz0:ak (z-z2)≠0
  ·rw[XK hz0];exact⟨same,fun m hm=>by cases hm⟩
  ·rw[XJ hz0]
   by_cases hp:0<ak z
   ·rw[XK ⟨Decidable.not_not.1 hz0,hp⟩]at h0;cases h0
   ·rw[XJ hp]
    have n0:Bz 0 (0:Et ts):=by
     have:=Bz.q (ts:=ts) (e:=0) (q:=0) oz (Cb.int (z:=0) (by decide));exact this
    refine⟨same,it ⟨?_,?_⟩⟩
    ·exact(p1.add (n0.mul tw Z.hK p1)).mono (f:=13*a+2*b+5*K+2*K'+I+J+20) oz
    ·exact(p2.add (n0.mul tw Z.hK p2)).mono (f:=13*a+2*b+5*K+2*K'+I+J+20) oz
 ·rw [XJ hs];have ht0:ak (eD (aB p q)) ≠ 0:=by rw [xl tw]; exact hs
  have ht:Bz (8*a+2*K+8) (eD (aB p q)):=Bz.mono (e:=2+(8*a+2*K+5)) (hd.qm q2') oz
  by_cases hx0:ak (bn p z q z2)<0
  ·rw[XK hx0];exact⟨same,fun m hm=>by cases hm⟩
  ·rw[XJ hx0];have hk:=hm.mul tw Z.hK (AZ Z tw ht ht0);have f1:Bz (11*a+2*b+4*K+I+10) (cV p q z z2).1:=(p1.add (hk.mul tw Z.hK v1)).mono oz;have f2:Bz (11*a+2*b+4*K+I+10) (cV p q z z2).2:=(p2.add (hk.mul tw Z.hK v2)).mono oz
   by_cases hx1:ak (bn p z q z2)=0
   ·rw[XK hx1];exact⟨same,it ⟨f1.mono oz,f2.mono oz⟩⟩
   ·rw [XJ hx1];have hpos:0 <= ak (bn p z q z2):=by omega
    have E:=uY tw hn Z.hL hX hpos;have hkx:=Z.kx E.ln;have s1:=(zF Z tw (x:=bn p z q z2)).mul E.tw hkx (yC Z tw hX hpos ht ht0);have s2:=s1.qm qm1;have w1:=(v2.up (X:=bn p z q z2) hn).qm qm1;have w2:=v1.up (X:=bn p z q z2) hn;have g1:=f1.up (X:=bn p z q z2) hn;have g2:=f2.up (X:=bn p z q z2) hn;exact⟨E,lK ⟨(g1.add (s1.mul E.tw hkx w1)).mono oz,(g2.add (s1.mul E.tw hkx w2)).mono oz⟩ ⟨(g1.add (s2.mul E.tw hkx w1)).mono oz,(g2.add (s2.mul E.tw hkx w2)).mono oz⟩⟩
theorem LW{p q o:P2 ts}{z:Et ts}(p1:Bz a p.1)(p2:Bz a p.2)(q1:Bz a q.1)(q2:Bz a q.2)(o1:Bz a o.1)(o2:Bz a o.2)(hz:Bz b z)(h0:eZ p q=0) :
  Xz ts r X (dX p q o z).ts/\∀m∈(dX p q o z).ps,Nm (dX p q o z).ts.length (13*a+2*b+5*K+2*K'+I+J+20) m.1/\Nm (dX p q o z).ts.length (13*a+2*b+5*K+2*K'+I+J+20) m.2:=by
 have hn:=Z.n1;have hkk:=Z.kk;have hS:=(AC Z tw p1 p2 q1 q2)
 have v1:=q1.sub p1;have v2:=q2.sub p2;have w1:=o1.sub p1;have w2:=o2.sub p2;have hE:Bz (8*a+2*K+5) (bH p q o):=((v1.mul tw Z.hK w1).add (v2.mul tw Z.hK w2)).mono oz;have hC:Bz (8*a+2*K+5) (ip p q o):=((v1.mul tw Z.hK w2).sub (v2.mul tw Z.hK w1)).mono oz;have hX:Bz X (aU p q o z):=((hS.mul tw Z.hK hz).sub (hC.mul tw Z.hK hC)).mono (by have:=Z.hX;omega);have same:=zy (X:=X) tw Z.hL;unfold eZ at h0;unfold dX
 by_cases hs:ak (bh p q)=0
 ·rw[XK hs]at h0;cases h0
 ·rw[XJ hs]
  by_cases h1:ak (aU p q o z)=-1
  ·rw[XK h1];exact⟨same,fun m hm=>by cases hm⟩
  ·rw[XJ h1]
   by_cases h2:ak (aU p q o z)=0
   ·rw[XK h2];have hk:=hE.mul tw Z.hK (AZ Z tw (hS.mono oz) hs);exact⟨same,it ⟨(p1.add (hk.mul tw Z.hK v1)).mono (f:=13*a+2*b+5*K+2*K'+I+J+20) oz,(p2.add (hk.mul tw Z.hK v2)).mono (f:=13*a+2*b+5*K+2*K'+I+J+20) oz⟩⟩
   ·rw[XJ h2]
    have hpos:0<=ak (aU p q o z):=by
     have:=T.sgn_cases (ay ts) ts.length (aU p q o z);have e:ak (aU p q o z)=T.sgn (ay ts) ts.length (aU p q o z):=rfl;omega
    have E:=uY tw hn Z.hL hX hpos;have hkx:=Z.kx E.ln;have hi:=yC Z tw hX hpos (hS.mono oz) hs;have rt:=zF Z tw (x:=aU p q o z);have k1:=((hE.up (X:=aU p q o z) hn).add rt).mul E.tw hkx hi;have k2:=((hE.up (X:=aU p q o z) hn).sub rt).mul E.tw hkx hi;have g1:=p1.up (X:=aU p q o z) hn;have g2:=p2.up (X:=aU p q o z) hn;have u1:=v1.up (X:=aU p q o z) hn;have u2:=v2.up (X:=aU p q o z) hn;exact⟨E,lK ⟨(g1.add (k1.mul E.tw hkx u1)).mono oz,(g2.add (k1.mul E.tw hkx u2)).mono oz⟩ ⟨(g1.add (k2.mul E.tw hkx u1)).mono oz,(g2.add (k2.mul E.tw hkx u2)).mono oz⟩⟩
end
end
def Cs(s:Nat)(l:Li):Prop:=∀b∈l.bo,∀m∈b.pts,Qb s m.x.q/\Qb s m.y.q
section
variable{s:Nat}{l:Li}(hl:l.ok)(hli:aG l=0)(hcs:Cs s l)
include hl hli hcs
theorem r6{body pt:Int}(h1:bt body l.bo.length=true)(h2:bt pt (cE l body).length=true):Sm s (aQ l body pt):=by
 obtain⟨n,k,bd,m,h⟩:=oP hl hli h1 h2;obtain⟨c1,c2⟩:=hcs bd (WU h.gbd) m (WU h.gm);rw[h.ex,co]at c1;rw[h.ey,co]at c2;exact⟨c1,c2⟩
theorem oa{i:Nat}{j:Jt}(hj:l.jo[i]?=some j){b:Int}(h:j.a=b\/j.b=b):Sm s (ao l j b):=by
 obtain⟨i1,i2,i3,i4,_⟩:=cA hli hj;unfold ao
 by_cases e:j.a=b
 ·rw[XK e];subst e;exact r6 hl hli hcs i1 i3
 ·rw[XJ e];rcases h with h |h
  ·exact absurd h e
  ·subst h;exact r6 hl hli hcs i2 i4
theorem tk{E r K:Nat}{a:As}(al:AB a)(hc:bF a.rs=0)(tw:Tw (llq a.rs) r)(hK:eB r (llq a.rs).length<=K){body pt:Int}(h1:bt body l.bo.length=true)(h2:bt pt (cE l body).length=true)(hb:Pd E a body) :
  Bz (3*E+2*s+2*K+10) (ba l a body pt).1/\Bz (3*E+2*s+2*K+10) (ba l a body pt).2:=by
 obtain⟨n,k,bd,m,b,hp⟩:=qf hl hli al hc h1 h2 hb;obtain⟨c1,c2⟩:=hcs bd (WU hp.mp.gbd) m (WU hp.mp.gm);have h:=ua tw hp.ok c1 c2;have hk:kB r (llq a.rs).length<=K:=hK;unfold ba Bz;rw[hp.eq];exact⟨h.1.mono oz,h.2.mono oz⟩
theorem rU{E r K:Nat}{a:As}(al:AB a)(hc:bF a.rs=0)(tw:Tw (llq a.rs) r)(hK:eB r (llq a.rs).length<=K){i:Nat}{j:Jt}(hj:l.jo[i]?=some j){b:Int}(h:PinP E l a j b) :
  Bz (3*E+2*s+2*K+10) (aC l a j b).1/\Bz (3*E+2*s+2*K+10) (aC l a j b).2:=by
 obtain⟨i1,i2,i3,i4,_⟩:=cA hli hj;unfold aC;rcases h.tie with⟨e,hb⟩ |⟨e,e2,hb⟩
 ·rw[XK e];exact tk hl hli hcs al hc tw hK i2 i4 hb
 ·rw[XJ e];exact tk hl hli hcs al hc tw hK i1 i3 hb
end
theorem Bz.upX{ts us:LL}{e:Nat}{x:Et ts}(h:Bz e x)(h1:ts.length<=us.length)(h5:us.length<=5):Bz e (dE us (sX x)):=pu ⟨h5,Nl.mono h.nl h1,h.cb⟩
theorem zN{s:Nat}{p q:Rat×Rat}(hp:Sm s p)(hq:Sm s q):Cb (8*s+5) [bE p q]:=by
 have h:=(hp.sub hq).dot (hp.sub hq);exact Cb.one (h.mono oz)
abbrev wZ(a b K K' I J:Nat):Nat:=14*a+3*b+5*K+3*K'+I+J+25
abbrev oZ(s a b K K' I J:Nat):Nat:=a+4*wZ a b K K' I J+26*s+18
theorem yk{n a b ec ex e:Nat}{p:Pq}(h:Pz n ec ex p)(h1:ec<=e)(h2:ex<=e):Pq.ok n e p:=⟨h.c.mono h1,h.s.mono h1,h.x.mono h2,h.y.mono h2⟩
section
variable{ts:LL}{r a b X K K' I J:Nat}(Z:Szs ts.length r a b X K K' I J)(tw:Tw ts r)
include Z tw
theorem Jd{s:Nat}{m:Mt}(hx:Xz ts r X m.ts)(hm:∀x∈m.ps,Nm m.ts.length (13*a+2*b+5*K+2*K'+I+J+20) x.1/\Nm m.ts.length (13*a+2*b+5*K+2*K'+I+J+20) x.2){hs:List Hd}
  (hh:∀h∈hs,Sm s h.p/\Sm s h.c/\bW (cg h.c h.p) (cg h.c h.p)≠0/\∃o:P2 ts,h.a=P2.l o/\Bz a o.1/\Bz a o.2) :
  ∀sv∈jI m hs,Xz ts r X sv.ts/\∀p∈sv.ps,Pq.ok sv.ts.length (oZ s a b K K' I J) p:=by
 have _:=Z;have _:=tw;intro sv h1;unfold jI at h1;obtain⟨i,hi,rfl⟩:=List.mem_map.1 h1;obtain⟨x,hxx⟩:=ax (List.mem_range.1 hi);obtain⟨n1,n2⟩:=hm x (WU hxx);refine⟨hx,fun p hp=>?_⟩;unfold jx at hp;rw[au hxx]at hp;obtain⟨h,h2,rfl⟩:=List.mem_map.1 hp;obtain⟨hp1,hc1,h0,o,ea,o1,o2⟩:=hh h h2;have h5:=hx.tw.five;have u1:=o1.upX hx.up h5;have u2:=o2.upX hx.up h5;have w1:=pu n1;have w2:=pu n2;have e1:h.a.1=sX o.1:=by rw[ea]
 have e2:h.a.2=sX o.2:=by rw[ea]
 have z:=FN (ts:=m.ts) (u:=cg h.c h.p) (p:=h.p) (w:=jG m.ts h x) (o:=kE m.ts h) (e:=13*a+2*b+5*K+2*K'+I+J+20+a+1) (f:=a) (hc1.sub hp1) hp1 h0
  (by unfold jG;rw[e1];exact w1.sub u1) (by unfold jG;rw[e2];exact w2.sub u2) (by unfold kE;rw[e1];exact u1) (by unfold kE;rw[e2];exact u2)
 exact yk (a:=a) (b:=b) z (by show _<=a+4*(14*a+3*b+5*K+3*K'+I+J+25)+26*s+18;omega) (by show _<=a+4*(14*a+3*b+5*K+3*K'+I+J+25)+26*s+18;omega)
theorem Rr{s:Nat}{us:LL}(hx:Xz ts r X us){R:Rp}{q:List Rat}(hv:Sm (2*s+1) R.v)(hp:Sm s R.p)(h0:bW R.v R.v≠0)(hq:Bz 1 (dE us q))(w1:Bz (2*a+1) (dE us R.w.1))(w2:Bz (2*a+1) (dE us R.w.2))(hh:Bz b (dE us R.h))
  (hd:Bz J (iE (dE us R.d))) (a1:Bz a (dE us R.a.1)) (a2:Bz a (dE us R.a.2)):Pq.ok us.length (oZ s a b K K' I J) (mQ us R q):=by
 have _:=tw;have hkx:=Z.kx hx.ln;have x1:=(((hq.mul hx.tw hkx w1).sub (hh.mul hx.tw hkx w2.neg)).mul hx.tw hkx hd)
 have x2:=(((hq.mul hx.tw hkx w2).sub (hh.mul hx.tw hkx w1)).mul hx.tw hkx hd)
 have z:=FN (ts:=us) (u:=R.v) (p:=R.p) (w:=nJ us q R.h R.d R.w) (o:=(dE us R.a.1,dE us R.a.2)) (e:=wZ a b K K' I J) (f:=a) hv hp h0
  (x1.mono (by show _<=14*a+3*b+5*K+3*K'+I+J+25;omega)) (x2.mono (by show _<=14*a+3*b+5*K+3*K'+I+J+25;omega)) a1 a2
 exact yk (a:=a) (b:=b) z (by show _<=a+4*(14*a+3*b+5*K+3*K'+I+J+25)+26*s+18;simp only[wZ];omega) (by show _<=a+4*(14*a+3*b+5*K+3*K'+I+J+25)+26*s+18;simp only[wZ];omega)
end
section
variable{s r b X K K' I J E:Nat}{l:Li}{a:As}(D:DyR l a)(hn:(llq a.rs).length<=1)(hcs:Cs s l)(tw:Tw (llq a.rs) r)
  (Z:Szs (llq a.rs).length r (3*E+2*s+2*K+10) b X K K' I J) (hb:8*s+5<=b)
include D hn hcs tw Z hb
theorem UB{g:Gr}{i k z0 z1 z2:Int}{j0 j1 j2:Jt}(P:RrrP E l a g i k z0 z1 z2 j0 j1 j2) :
  ∀sv∈jH l a i k j0 j1 j2,Xz (llq a.rs) r X sv.ts/\∀p∈sv.ps,Pq.ok sv.ts.length (oZ s (3*E+2*s+2*K+10) b K K' I J) p:=by
 have _:=hn;have hq0:=oa D.hl D.li hcs P.h0 P.p0.or;have hq1:=oa D.hl D.li hcs P.h1 P.p1.or;have hq2:=oa D.hl D.li hcs P.h2 P.t1;have hq3:=oa D.hl D.li hcs P.h2 P.t2;obtain⟨y1,y2⟩:=rU D.hl D.li hcs D.al D.hc tw Z.hK P.h0 P.p0;obtain⟨y3,y4⟩:=rU D.hl D.li hcs D.al D.hc tw Z.hK P.h1 P.p1;have z1:Bz b (qE (bE (ao l j2 i) (ao l j0 i)):Et (llq a.rs)):=Bz.q tw.five ((zN hq2 hq0).mono hb);have z2:Bz b (qE (bE (ao l j2 k) (ao l j1 k)):Et (llq a.rs)):=Bz.q tw.five ((zN hq3 hq1).mono hb);unfold jH
 by_cases h1:gK [cg (ao l j2 i) (ao l j0 i),cg (ao l j2 k) (ao l j1 k)]=true
 ·rw[XK h1];intro sv h;cases h
 ·rw[XJ h1];obtain⟨w1,w2⟩:=rY (Bool.eq_false_iff.2 h1)
  by_cases h2:fg (aC l a j0 i) (aC l a j1 k) (qE (bE (ao l j2 i) (ao l j0 i))) (qE (bE (ao l j2 k) (ao l j1 k)))≠0
  ·rw[XK h2];intro sv h;cases h
  ·rw[XJ h2];obtain⟨hx,hm⟩:=Th Z tw y1 y2 y3 y4 z1 z2 (Decidable.not_not.1 h2);exact Jd Z tw hx hm (lK ⟨hq0,hq2,w1,_,rfl,y1,y2⟩ ⟨hq1,hq3,w2,_,rfl,y3,y4⟩)
theorem Wu{g:Gr}{i z0 z1:Int}{j0 j:Jt}(P:SlP E l a g 2 i z0 z1 j0 j)(ha:j.a=i)(hbd:Pd E a j.b) :
  ∀sv∈jb l a i j0 j,Xz (llq a.rs) r X sv.ts/\∀p∈sv.ps,Pq.ok sv.ts.length (oZ s (3*E+2*s+2*K+10) b K K' I J) p:=by
 have _:=hn;obtain⟨i1,i2,i3,i4,i5⟩:=cA D.li P.h1;have hq2:Sm s (aQ l i j.point):=by rw[<- ha];exact r6 D.hl D.li hcs i1 i3
 have hq0:=oa D.hl D.li hcs P.h0 P.p0.or;obtain⟨y1,y2⟩:=rU D.hl D.li hcs D.al D.hc tw Z.hK P.h0 P.p0;obtain⟨y3,y4⟩:=tk D.hl D.li hcs D.al D.hc tw Z.hK i2 i4 hbd;obtain⟨y5,y6⟩:=tk D.hl D.li hcs D.al D.hc tw Z.hK i2 (i5 P.hk) hbd;have z1:Bz b (qE (bE (aQ l i j.point) (ao l j0 i)):Et (llq a.rs)):=Bz.q tw.five ((zN hq2 hq0).mono hb);unfold jb
 by_cases h1:gK [cg (aQ l i j.point) (ao l j0 i)]=true
 ·rw[XK h1];intro sv h;cases h
 ·rw[XJ h1];have w1:=uu (Bool.eq_false_iff.2 h1)
  by_cases h2:eZ (ba l a j.b j.on) (ba l a j.b j.to)≠0
  ·rw[XK h2];intro sv h;cases h
  ·rw[XJ h2];obtain⟨hx,hm⟩:=LW Z tw y3 y4 y5 y6 y1 y2 z1 (Decidable.not_not.1 h2);exact Jd Z tw hx hm (it ⟨hq0,hq2,w1,_,rfl,y1,y2⟩)
theorem Kw{g:Gr}{i z0 z1:Int}{j0 j:Jt}(P:SlP E l a g 3 i z0 z1 j0 j)(hj:j.b=i)(hbd:Pd E a j.a) :
  ∀sv∈je l a i j0 j,Xz (llq a.rs) r X sv.ts/\∀p∈sv.ps,Pq.ok sv.ts.length (oZ s (3*E+2*s+2*K+10) b K K' I J) p:=by
 obtain⟨i1,i2,i3,i4,i5⟩:=cA D.li P.h1;have hs0:=oa D.hl D.li hcs P.h0 P.p0.or;have hs1:Sm s (aQ l i j.on):=by rw[<- hj];exact r6 D.hl D.li hcs i2 i4
 have hs2:Sm s (aQ l i j.to):=by rw[<- hj];exact r6 D.hl D.li hcs i2 (i5 P.hk)
 have hv:Sm (2*s+1) (cw l i j):=(hs2.sub hs1).mono oz;have qn:Cb b [iD l i j]:=(Cb.one (hv.dot hv)).mono oz;have qh:Cb b [cq l i j0 j]:=(Cb.one (hv.cross (hs1.sub hs0))).mono oz;obtain⟨o1,o2⟩:=rU D.hl D.li hcs D.al D.hc tw Z.hK P.h0 P.p0;obtain⟨p1,p2⟩:=tk D.hl D.li hcs D.al D.hc tw Z.hK i1 i3 hbd;have w1:Bz (2*(3*E+2*s+2*K+10)+1) (bS l a i j0 j).1:=Bz.mono (p1.sub o1) oz;have w2:Bz (2*(3*E+2*s+2*K+10)+1) (bS l a i j0 j).2:=Bz.mono (p2.sub o2) oz;have hd:Bz (8*(3*E+2*s+2*K+10)+2*K+8) (cc l a i j0 j):=Bz.mono (AC Z tw (p:=aC l a j0 i) (q:=ba l a j.a j.point) o1 o2 p1 p2) oz;have hX:Bz X (bp l a i j0 j):=Bz.mono ((hd.qm qn).sub ((Bz.q tw.five qh).qm qh)) (by have:=Z.hX;omega);have h0:=un D.li P.h1 P.hk hj;unfold je
 by_cases h1:ak (cc l a i j0 j)=0/\ak (qE (cq l i j0 j):Et (llq a.rs))=0
 ·rw[XK h1];intro sv h;cases h
 ·rw[XJ h1]
  by_cases h2:ak (bp l a i j0 j)<0
  ·rw[XK h2];intro sv h;cases h
  ·rw[XJ h2];have hd0:ak (cc l a i j0 j)≠0:=sM tw h2 h1
   have key:∀us,Xz (llq a.rs) r X us->Bz J (iE (dE us (sX (cc l a i j0 j))))->∀q,Bz 1 (dE us q)->Pq.ok us.length (oZ s (3*E+2*s+2*K+10) b K K' I J) (mQ us (dk l a i j0 j) q):=by
    intro us hx hi q hq;have h5:=hx.tw.five
    have hh:Bz b (dE us (sh 0 (cq l i j0 j:Rat))):=by
     have e:dE us (sh 0 (cq l i j0 j:Rat))=qE (cq l i j0 j):=fL _ _;rw[e];exact Bz.q h5 qh
    exact Rr Z tw hx (R:=dk l a i j0 j) hv hs0 h0 hq (w1.upX hx.up h5) (w2.upX hx.up h5) hh hi (o1.upX hx.up h5) (o2.upX hx.up h5)
   by_cases h3:0<ak (bp l a i j0 j)
   ·rw [XK h3];have hx:=uY tw hn Z.hL hX oz;have hi:=yC Z tw hX (by omega:0 <= ak (bp l a i j0 j)) hd hd0;have rt:=zF Z tw (x:=bp l a i j0 j);have k:=key _ hx hi;intro sv h;unfold jD at h;obtain ⟨n,hn2,rfl⟩:=List.mem_map.1 h;refine ⟨hx,fun p hp=>?_⟩;unfold iV at hp;rw [List.mem_singleton.1 hp]
    match n,List.mem_range.1 hn2 with
    |0,_=>exact k _ rt
    |1,_ =>
     refine k _ ?_;show Bz 1 (dE _ (sX (-bu (bp l a i j0 j))));have e:dE (aS (llq a.rs) (sX (bp l a i j0 j))) (sX (-bu (bp l a i j0 j)))=-bu (bp l a i j0 j):=bf _ _;rw[e];exact rt.neg
   ·rw[XJ h3];have hx:=zy (X:=X) tw Z.hL;have e:dE (llq a.rs) (sX (cc l a i j0 j))=cc l a i j0 j:=bf _ _
    have hi:Bz J (iE (dE (llq a.rs) (sX (cc l a i j0 j)))):=by
     rw[e];exact(AZ Z tw hd hd0).mono Z.ij
    have k:=key _ hx hi;intro sv h;unfold jD at h;obtain⟨n,hn2,rfl⟩:=List.mem_map.1 h;refine⟨hx,fun p hp=>?_⟩;unfold iV at hp;rw[List.mem_singleton.1 hp]
    match n,List.mem_range.1 hn2 with
    |0,_=>exact k _ (pu ⟨tw.five,.inl rfl,⟨1,0,⟨by decide,fun q h=>by cases h⟩,by decide,by decide⟩⟩)
end
theorem C3{k:List Bool}{i:Nat}{b:Int}(h:kn (k.set i true) b=true):kn k b=true\/i=b.toNat:=by
 unfold kn at h ⊢
 by_cases e:i=b.toNat
 ·exact .inr e
 ·rw[WV,List.getElem?_set_ne e,<- WV]at h;exact .inl h
theorem zU:∀(bs:List Int){k:List Bool}{b:Int},kn (bA k bs) b=true->kn k b=true\/∃x∈bs,x.toNat=b.toNat
 |[],k,b,h=>.inl h
 |x::bs,k,b,h=>by
  have h:kn (bA (k.set x.toNat true) bs) b=true:=h;rcases zU bs h with h |⟨y,hy,e⟩
  ·rcases C3 h with h |h
   ·exact .inl h
   ·exact .inr ⟨x,Xv,h⟩
  ·exact .inr ⟨y,Xw _ hy,e⟩
def rC(l:Li)(kw:List Bool)(out:List Gr):Prop:=∀d∈l.dv,kn kw d.body=true->∃g∈out,g.kind=0/\g.bo=[d.body]
theorem KU{l:Li}{d:Dr}(hd:d∈l.dv){b:Int}(h:d.body=b):my l b=true:=by
 unfold my;rw[List.any_eq_true];exact⟨d,hd,by simp[h]⟩
theorem Gq{l:Li}{kw:List Bool}{g:Gr}(h:pairG l kw=some g):∀x∈g.bo,freeB l kw x=true:=by
 unfold pairG at h;rw[WX]at h;obtain⟨i,hi,h⟩:=h;obtain⟨h1,h2⟩:=e8 hi;split at h
 ·rename_i k hk;subst h;unfold prAt at hk;rw [WX] at hk;obtain ⟨k',hk',rfl⟩:=hk;obtain ⟨h3,h4⟩:=e8 hk';rw [show i + 1 + k' = k' + (i + 1) by omega] at h4;unfold prHit at h4;simp only [Bool.not_eq_false',W4,decide_eq_true_eq] at h4;obtain ⟨⟨f1,f2⟩,_⟩:=h4;intro x hx;simp only [prG,Xu,Xf,or_false] at hx;rcases hx with rfl | rfl
  ·exact f1
  ·exact f2
 ·rename_i hk;rw[hk]at h2;cases h2
theorem Dj{l:Li}{kw:List Bool}{g:Gr}(h:singleG l kw=some g):∀x∈g.bo,freeB l kw x=true:=by
 unfold singleG at h;rw[WX]at h;obtain⟨i,hi,rfl⟩:=h;obtain⟨h1,h2⟩:=e8 hi;unfold sgHit at h2;simp only[Bool.not_eq_false',W4,decide_eq_true_eq]at h2;intro x hx;simp only[sgG,Xu,Xf,or_false]at hx;subst hx;exact h2.1
theorem KY{l:Li}(hl:aG l=0){kw:List Bool}{out:List Gr}{g:Gr}(h:rC l kw out)(hg:nextG l kw=some g):rC l (bA kw g.bo) (out++[g]):=by
 intro d hd hk;have ho:=xj hl hg;rcases zU g.bo hk with h1 |⟨x,hx,e⟩
 ·obtain⟨g',h2,h3⟩:=h d hd h1;exact⟨g',List.mem_append_left _ h2,h3⟩
 ·obtain ⟨i, hi⟩:=XC hd;have hb:=cM (j6 hl hi);have hx0:=(ho.b x hx).1;have ex:d.body = x:=by omega
  unfold nextG at hg;cases h1:driverG l kw with
  |some g' =>
   rw[h1]at hg;cases hg
   refine⟨g,List.mem_append_right _ (List.mem_singleton.2 rfl),?_⟩;unfold driverG at h1;rw[WX]at h1;obtain⟨i,_,rfl⟩:=h1;refine⟨rfl,?_⟩;rw[List.mem_singleton.1 hx]at ex;rw[ex]
  |none =>
   rw[h1]at hg
   have hf:freeB l kw x=true:=by
    cases h2:pairG l kw with
    |some g'=>rw[h2]at hg;cases hg;exact Gq h2 x hx
    |none=>rw[h2]at hg;exact Dj hg x hx
   unfold freeB at hf;rw[KU hd ex]at hf;simp at hf
theorem HG{l:Li}(hl:aG l=0):∀(n:Nat)(kw:List Bool)(out:List Gr),rC l kw out->rC l (findFrom l n kw out).1 (findFrom l n kw out).2
 |0,kw,out,h=>h
 |n+1,kw,out,h=>by
  unfold findFrom;cases hg:nextG l kw with
  |none=>exact h
  |some g=>exact HG hl n _ _ (KY hl h hg)
theorem u9{l:Li}(hl:aG l=0){i:Nat}{d:Dr}(hd:l.dv[i]?=some d):d.body≠0/\∀j d',j<i->l.dv[j]?=some d'->d'.body≠d.body:=by
 have h1:=(cU hl).2.2.1;unfold gM at h1;split at h1
 ·cases h1
 ·have h2:=sF h1 i (List.getElem?_eq_some_iff.1 hd).1;unfold d6 at h2;rw[au hd]at h2;split at h2
  ·cases h2
  ·split at h2
   ·cases h2
   ·split at h2
    ·cases h2
    ·split at h2
     ·cases h2
     ·rename_i h4;split at h2
      ·cases h2
      ·rename_i h5;refine⟨h4,fun j d' hj hd' e=>h5 ?_⟩;rw[List.any_eq_true];exact⟨d',WU (by rw[Xp,XK hj];exact hd'),by simpa using e⟩
theorem IV{α:Type}{p:α->Bool}:∀{l:List α}{x y:α},x∈l->y∈l->x≠y->p x=true->p y=true->2<=l.countP p
 |z::l,x,y,hx,hy,hn,px,py=>by
  have pos:∀w,w∈l->p w=true->0<l.countP p:=fun w hw pw=>List.countP_pos_iff.2 ⟨w,hw,pw⟩
  rcases List.mem_cons.1 hx with e |hx
  ·rcases List.mem_cons.1 hy with e2 |hy
   ·exact absurd (e.trans e2.symm) hn
   ·have h9:=pos y hy py;rw[List.countP_cons_of_pos (e▸px)];omega
  ·rcases List.mem_cons.1 hy with e |hy
   ·have h9:=pos x hx px;rw[List.countP_cons_of_pos (e▸py)];omega
   ·have:=IV hx hy hn px py;rw[List.countP_cons];omega
theorem rD{l:Li}(hl:aG l=0):l.dv.length<=2:=by
 have h1:=(cU hl).2.2.1;unfold gM at h1;split at h1
 ·cases h1
 ·omega
theorem HC{l:Li}(hl:aG l=0)(hs:splitE l=0):∀d∈l.dv,∃g∈splitG l,g.kind=0/\g.bo=[d.body]:=by
 have h0:rC l (cG l.bo.length 0) []:=by
  intro d hd hk;obtain⟨i,hi⟩:=XC hd;have hb:=cM (j6 hl hi);rw[om oz oz oz]at hk;exact absurd (of_decide_eq_true hk) (u9 hl hi).1
 have h1:=HG hl l.bo.length _ _ h0;rw[E9]at h1;intro d hd;obtain⟨i,hi⟩:=XC hd;have hb:=cM (j6 hl hi)
 have hz:(eK (bU l)).length=0:=by
  unfold splitE at hs;split at hs
  ·omega
  ·cases hs
 rw[xk]at hz
 have hlen:(bU l).length=l.bo.length:=by
  have:∀(gs:List Gr)(k:List Bool),(gs.foldl (fun k g=>bA k g.bo) k).length=k.length:=by
   intro gs
   induction gs with
   |nil=>intro k;rfl
   |cons g gs ih=>intro k;rw[foldl_cons,ih,ja]
  unfold bU;rw[this,gV]
 have hk:kn (bU l) d.body=true:=by
  unfold kn;rw[WV,WY (by omega:d.body.toNat<(bU l).length)];show(bU l)[d.body.toNat]=true;cases hv:(bU l)[d.body.toNat]'oz with
  |true=>rfl
  |false =>
   exfalso;have hm:false∈bU l:=hv▸List.getElem_mem _;rw[<- List.contains_iff_mem]at hm;rw[hm]at hz;cases hz
 obtain⟨g,hg,h2⟩:=h1 d hd hk;refine⟨g,?_,h2⟩;unfold splitG;rw[XK hs];exact hg
theorem Gp{l:Li}(hl:aG l=0)(hs:splitE l=0):l.dv.length<=(splitG l).countP (fun g=>decide (g.kind=0)):=by
 have h2:=rD hl;have hg:=HC hl hs
 match hd:l.dv with
 |[]=>simp
 |[d] =>
  obtain⟨g,h3,h4,_⟩:=hg d (by rw[hd];simp);exact List.countP_pos_iff.2 ⟨g,h3,by simpa using h4⟩
 |[d,d'] =>
  obtain⟨g,h3,h4,h5⟩:=hg d (by rw[hd];simp);obtain⟨g',h3',h4',h5'⟩:=hg d' (by rw[hd];simp);refine IV h3 h3' ?_ (by simpa using h4) (by simpa using h4');intro e;rw[e,h5']at h5;exact(u9 hl (i:=1) (d:=d') (by rw[hd];rfl)).2 0 d oz (by rw[hd];rfl) (by simpa using h5.symm)
 |_::_::_::_=>rw[hd]at h2;simp only[W9]at h2;omega
structure Aq where
  ts:LL
  bs:List Pq
  ms:List Int
instance:Inhabited Pq:=⟨⟨[],[],[],[]⟩⟩
instance:Inhabited Aq:=⟨⟨[],[],[]⟩⟩
def Pq.pl(p:Pq):Pl:=⟨p.c.map rt,p.s.map rt,p.x.map rt,p.y.map rt⟩
def Aq.as(a:Aq):As:=⟨a.ts.map (List.map rt),a.bs.map Pq.pl,a.ms⟩
theorem Pq.pl_av(p:Pq):p.pl.av=p.av:=by unfold Pl.av Pq.av Pq.pl;rw[fq,fq,fq,fq]
abbrev Aq.cs(a:Aq):List AV:=[.lst 1 (a.ts.map nA),.lst 4 (a.bs.map Pq.av),.lst 1 (a.ms.map i64)]
abbrev Aq.av(a:Aq):AV:=.agg a.cs
theorem Aq.as_av(a:Aq):a.as.av=a.av:=by
 unfold As.av Aq.as Aq.av Aq.cs;rw[map_map,map_map];congr 3
 ·exact List.map_congr_left (fun x _=>fq x)
 ·congr 1;exact List.map_congr_left (fun x _=>Pq.pl_av x)
theorem Aq.llq(a:Aq):Lw.llq a.as.rs=a.ts:=pK _
def a5(bs:List Pq)(is:List Int)(ps:List Pq):List Pq:=(is.zip ps).foldl (fun k x=>k.set x.1.toNat x.2) bs
def Aq.nxt(a:Aq)(g:Gr)(s:Sv):Aq:=⟨s.ts,a5 a.bs g.bo s.ps,a.ms++[s.mode]⟩
def bc:Pq:=⟨[],[],[],[]⟩
def ky:Pq:=⟨[1],[],[],[]⟩
def eG(l:Li):Aq:=⟨[],(List.replicate l.bo.length bc).set 0 ky,[]⟩
def dx:Tn:=⟨⟨false,[],[]⟩,false⟩
def bZ(g:Gr)(xs:List Tn):Tn:=if g.kind=0 then xs.getD g.driver.toNat dx else dx
theorem Cw:∀(zs:List (Int×Pq))(bs:List Pq),(zs.foldl (fun k x=>k.set x.1.toNat x.2) bs).length=bs.length
 |[],bs=>rfl
 |z::zs,bs=>by rw[foldl_cons,Cw zs,XI]
theorem IY:∀(zs:List (Int×Pq))(bs:List Pq)(p:Pq),p∈zs.foldl (fun k x=>k.set x.1.toNat x.2) bs->p∈bs\/∃z∈zs,z.2=p
 |[],bs,p,h=>.inl h
 |z::zs,bs,p,h=>by
  rw[foldl_cons]at h;rcases IY zs _ p h with h |⟨z',hz,e⟩
  ·rcases List.mem_or_eq_of_mem_set h with h |h
   ·exact .inl h
   ·exact .inr ⟨z,Xv,h.symm⟩
  ·exact .inr ⟨z',Xw _ hz,e⟩
theorem uw(bs:List Pq)(is:List Int)(ps:List Pq):(a5 bs is ps).length=bs.length:=Cw _ _
theorem Ey{bs:List Pq}{is:List Int}{ps:List Pq}{p:Pq}(h:p∈a5 bs is ps):p∈bs\/p∈ps:=by
 rcases IY _ _ _ h with h |⟨z,hz,e⟩
 ·exact .inl h
 ·exact .inr (e▸(List.of_mem_zip hz).2)
theorem KE{bs:List Pq}{is:List Int}{ps:List Pq}{i:Nat}{b:Int}{p:Pq}(hb:is[i]?=some b)(hp:ps[i]?=some p) :
  a5 bs (is.take (i+1)) (ps.take (i+1))=(a5 bs (is.take i) (ps.take i)).set b.toNat p:=by
 have h1:is.take (i+1)=is.take i++[b]:=by rw[List.take_add_one,hb];rfl
 have h2:ps.take (i+1)=ps.take i++[p]:=by rw[List.take_add_one,hp];rfl
 have hl1:=(List.getElem?_eq_some_iff.1 hb).1;have hl2:=(List.getElem?_eq_some_iff.1 hp).1;unfold a5;rw[h1,h2,List.zip_append (by rw[Xh,Xh];omega),List.foldl_append];rfl
def lD(s j r E:Nat):Nat:=3*E+2*s+2*eB r j+10
def kr(s j r E:Nat):Nat:=24*lD s j r E+8*eB r j+5*(8*s+5)+23
def Cu(s j r E:Nat):Nat:=iB r j (8*lD s j r E+2*eB r j+8)
def vH(s j r E:Nat):Nat:=iB (r+kr s j r E) j (8*lD s j r E+2*eB r j+8)
def sS(s j r E:Nat):Nat:=oZ s (lD s j r E) (8*s+5) (eB r j) (eB (r+kr s j r E) (j+1)) (Cu s j r E) (vH s j r E)
def nF(s g j r E:Nat):Nat:=lD s j r E+2*g+2*s+4
def ek(s g:Nat):Nat->Nat->Nat->Nat->Nat->Bool
  |0,_,j,r,E=>decide (E<=3200000000/\r<=60000000/\j<=2)
  |n+1,y,j,r,E=>decide (E<=3200000000/\r<=60000000/\j<=2)&&(ek s g n y j r (nF s g j r E) &&
      (decide (y=0)||(decide (j<=1/\E<=3900000/\r<=64990/\r+kr s j r E<=5000000000/\vH s j r E<=50000000000)&&ek s g n (y-1) (j+1) (r+kr s j r E) (sS s j r E))))
theorem Ea:ek 32 134 3 1 0 0 2=true:=by decide +kernel
theorem ML:ek 9 42 4 2 0 0 2=true:=by decide +kernel
theorem uO{s g n y j r E:Nat}(h:ek s g n y j r E=true):E<=3200000000/\r<=60000000/\j<=2:=by
 cases n with
 |zero=>exact of_decide_eq_true h
 |succ n =>
  unfold ek at h;simp only[W4,decide_eq_true_eq]at h;exact⟨h.1.1,h.1.2.1,h.1.2.2⟩
theorem Cv{s g n y j r E:Nat}(h:ek s g n y j r E=true):E<=3200000000/\r<=400000000/\j<=2:=by
 have:=uO h;omega
theorem JK{s g n y j r E:Nat}(h:ek s g n y j r E=true):E<=50000000000/\r<=400000000/\j<=2:=by
 have:=Cv h;omega
theorem sa{s g n y j r E:Nat}(h:ek s g (n+1) y j r E=true):(E<=20000000000/\r<=400000000/\j<=2)/\ek s g n y j r (nF s g j r E)=true:=by
 unfold ek at h;simp only[W4,decide_eq_true_eq]at h;exact⟨⟨by omega,by omega,by omega⟩,h.2.1⟩
theorem q7{s g n y j r E:Nat}(h:ek s g (n+1) (y+1) j r E=true):(j<=1/\E<=3900000/\r<=64990/\r+kr s j r E<=5000000000/\vH s j r E<=50000000000)/\ek s g n y (j+1) (r+kr s j r E) (sS s j r E)=true:=by
 unfold ek at h;simp only[W4,XE,decide_eq_true_eq,Nat.add_sub_cancel]at h;rcases h.2.2 with h1 |h1
 ·omega
 ·exact h1
structure QInv(l:Li)(j r E:Nat)(a:Aq):Prop where
  tw:Tw a.ts r
  lv:a.ts.length<=j
  bs:∀p∈a.bs,Pq.ok a.ts.length E p
  ln:a.bs.length=l.bo.length
theorem Pq.ok.up{n n' e e':Nat}{p:Pq}(h:Pq.ok n e p)(hn:n<=n')(h5:n'<=5)(he:e<=e'):Pq.ok n' e' p :=
 ⟨⟨h5,h.c.nl.mono hn,h.c.cb.mono he⟩,⟨h5,h.s.nl.mono hn,h.s.cb.mono he⟩,⟨h5,h.x.nl.mono hn,h.x.cb.mono he⟩,⟨h5,h.y.nl.mono hn,h.y.cb.mono he⟩⟩
theorem Pq.ok.lv{n m e:Nat}{p:Pq}(h:Pq.ok n e p)(hn:n=m):Pq.ok m e p:=hn▸h
theorem r4{r r':Nat}(h:r<=r'):∀j,eB r j<=eB r' j
 |0=>WZ _
 |j+1=>by have:=r4 h j;simp only[eB];omega
theorem E3{r r':Nat}(h:r<=r'):∀j e,iB r j e<=iB r' j e
 |0,e=>WZ _
 |j+1,e=>by
  have h1:=r4 h j;have h2:=r4 h (j+1);have h3:=E3 h j (4*e+3*eB r j+r+1);have h4:=vo r' j (e:=4*e+3*eB r j+r+1) (f:=4*e+3*eB r' j+r'+1) oz;simp only[iB];omega
theorem wh:Pq.ok 0 2 bc:=by
 have h:Nm 0 2 []:=⟨by omega,.inl rfl,⟨1,0,⟨by decide,fun q h=>by cases h⟩,by decide,by decide⟩⟩
 exact⟨h,h,h,h⟩
theorem Pt:Pq.ok 0 2 ky:=by
 have h:Nm 0 2 [1]:=⟨by omega,.inr ⟨0,WZ _,rfl⟩,Cb.mono (Cb.int (z:=1) (e:=1) (by decide)) oz⟩
 exact⟨h,wh.c,wh.c,wh.c⟩
theorem zI:Tw [] 0:=⟨by decide,(fun j h=>by cases h),(fun j h=>by cases h),⟨1,1,by decide,(fun d h=>by cases h),by decide,by decide⟩,by omega⟩
theorem CP(l:Li):QInv l 0 0 2 (eG l):=by
 refine⟨zI,WZ _,fun p hp=>?_,by simp[eG]⟩;rcases List.mem_or_eq_of_mem_set hp with h |h
 ·rw[(List.mem_replicate.1 h).2];exact wh
 ·rw[h];exact Pt
theorem Pq.ok.nr{n e:Nat}{p:Pq}(h:Pq.ok n e p)(he:e<=lm n):∀x∈p.pl.l,NR x e:=by
 intro x hx;simp only[Pl.l,Pq.pl,Xu,Xf,or_false]at hx;rcases hx with rfl |rfl |rfl |rfl
 ·exact h.c.rt he
 ·exact h.s.rt he
 ·exact h.x.rt he
 ·exact h.y.rt he
theorem Pq.ok.num{n e:Nat}{p:Pq}(h:Pq.ok n e p):∀x∈p.pl.l,cH n x=0:=by
 intro x hx;simp only[Pl.l,Pq.pl,Xu,Xf,or_false]at hx;rcases hx with rfl |rfl |rfl |rfl
 ·exact oC h.c.nl
 ·exact oC h.s.nl
 ·exact oC h.x.nl
 ·exact oC h.y.nl
section
variable{l:Li}{j r E:Nat}{a:Aq}(Q:QInv l j r E a)
include Q
theorem QInv.chk:bF a.as.rs=0:=Q.tw.chk
theorem QInv.mem{p:Pl}(h:p∈a.as.bs):∃q∈a.bs,q.pl=p:=by have _:=Q;exact List.mem_map.1 h
theorem QInv.nr(hE:E<=50000000000){p:Pl}(h:p∈a.as.bs):∀x∈p.l,NR x E:=by
 obtain⟨q,hq,rfl⟩:=Q.mem h;exact(Q.bs q hq).nr (Xj hE (jY _))
theorem QInv.ab(hl:aG l=0)(hE:E<=50000000000)(hr:r<=400000000):AB a.as:=by
 refine⟨Q.tw.tr.mono hr oz,fun p hp x hx=>(Q.nr hE hp x hx).mono hE,?_,?_⟩
 ·show(a.ts.map _).length<=8;rw[WW];have:=Q.tw.three;omega
 ·show(a.bs.map _).length<=30;rw[WW,Q.ln];have:=(cU hl).2.2.2.1;omega
theorem QInv.sma(hE:E<=50000000000){F:Nat}(hF:E<=F)(k:Int)(own:Bool):ta F l k a.as own :=
 fun b _ _ p hp x hx=>(Q.nr hE (WU hp) x hx).mono hF
theorem QInv.nd(hl:aG l=0){g:Gr}(hg:GrOk l g){own:Bool}:∀b∈cF l g own,gL a.as b=0:=by
 intro b hb;unfold gL;split
 ·rfl
 ·have h1:=v8 hl hg b hb;obtain ⟨p,hp⟩:=ax (l:=a.bs) (i:=b.toNat) (by rw [Q.ln]; omega);have e:a.as.bs[b.toNat]? = some p.pl:=by show (a.bs.map Pq.pl)[b.toNat]? = _; rw [W0,hp]; rfl
  rw[au e];unfold bQ;rw[XJ (by rw[Q.chk];simp)];have e2:a.as.rs.length=a.ts.length:=WW _;rw[e2];exact pN (fun x hx=>(Q.bs p (WU hp)).num x hx)
theorem QInv.dy0(hl:aG l=0)(hs:splitE l=0){k:Nat}{g:Gr}(hg:(splitG l)[k]?=some g)(own:Bool):fH l k a.as own=0:=by
 have hk:=(List.getElem?_eq_some_iff.1 hg).1;obtain⟨_,ho⟩:=jK hl (WU hg);have hgA:ik l (k:Nat)=g:=au hg;rw[qS hl,D4 hs oz (by show(a.bs.map _).length=_;rw[WW,Q.ln]) Q.chk,hgA];exact pN (fun b hb=>Q.nd hl ho b (yz.1 hb))
end
structure WkC(l:Li)(xs:List Tn)(s g:Nat):Prop where
  hl:l.ok
  li:aG l=0
  sp:splitE l=0
  cs:Cs s l
  ln:xs.length=l.dv.length
  ok:∀x∈xs,x.t.ok/\x.err=0/\Qb 1000 x.t.q/\Cb g [dF x.half x.t.q]/\Cb g [dD x.half x.t.q]
theorem Au{l:Li}{g:Gr}(h:DyK l g)(hk:g.kind=0):0<=g.driver/\g.driver<l.dv.length:=by
 cases h with
 | @drv b z d _ _ t d0 hd hb=>have:=(List.getElem?_eq_some_iff.1 hd).1;exact⟨d0,by show d<_;omega⟩
 |rrr=>exact absurd hk (by simp)
 |pr=>exact absurd hk (by simp)
 |rp=>exact absurd hk (by simp)
theorem yU:dx.t.ok:=⟨(fun x h=>by cases h),(fun x h=>by cases h),W7 _,W7 _⟩
theorem Ck:Qb 1000 dx.t.q:=by
 have e:dx.t.q=0:=by decide +kernel
 rw[e];exact Qb.zero.mono oz
section
variable{l:Li}{xs:List Tn}{s g:Nat}(W:WkC l xs s g){k:Nat}{gr:Gr}(hg:(splitG l)[k]?=some gr)
include W hg
theorem WkC.grp:DyK l gr/\GrOk l gr:=jK W.li (WU hg)
theorem WkC.tn:(bZ gr xs).t.ok/\Qb 1000 (bZ gr xs).t.q/\(gr.kind=0->∃x∈xs,bZ gr xs=x):=by
 unfold bZ
 by_cases hk:gr.kind=0
 ·rw[XK hk];have h:=Au (W.grp hg).1 hk;obtain⟨x,hx⟩:=ax (l:=xs) (i:=gr.driver.toNat) (by rw[W.ln];omega);rw[au hx];have hm:=WU hx;exact⟨(W.ok x hm).1,(W.ok x hm).2.2.1,fun _=>⟨x,hm,rfl⟩⟩
 ·rw[XJ hk];exact⟨yU,Ck,fun h=>absurd h hk⟩
variable{j r E:Nat}{a:Aq}(Q:QInv l j r E a)
include Q
theorem QInv.dyOk{F:Nat}(hE:E<=50000000000)(hF:E<=F):DyOk F l k a.as false k gr:=by
 obtain⟨i,g',h⟩:=uI (Q.sma hE hF k false) (Q.dy0 W.li W.sp hg false);have e:i=k:=by have:=h.hk;omega
 subst e;have:=h.hg;rw[hg]at this;cases this;exact h
theorem QInv.dyS(hr:r<=64990)(hj:j<=1):DyS a.as:=by have _:=W;have _:=hg;exact⟨Q.tw.tr.mono hr oz,fun _=>by rw[a.llq];exact Xj Q.lv hj⟩
theorem QInv.dyW(hE:E<=50000000000)(hr:r<=400000000):DyW l a.as:=by have _:=hg;exact⟨W.hl,W.li,Q.ab W.li hE hr,Q.chk⟩
theorem QInv.twl:Tw (Lw.llq a.as.rs) r:=by have _:=W;have _:=hg;rw[a.llq];exact Q.tw
theorem QInv.drv{n y:Nat}(ok:ek s g (n+1) y j r E=true)(hk:gr.kind=0):∀sv∈ez l a.as gr (bZ gr xs),QInv l j r (nF s g j r E) (a.nxt gr sv):=by
 obtain⟨⟨hE,hr,hj⟩,_⟩:=sa ok;have D:=QInv.dyW W hg Q oz hr;have O:=QInv.dyOk W hg Q (F:=E) oz (WZ _);obtain⟨i,z0,d,j0,e,hj0,p0⟩:=xT O hk;obtain⟨_,_,hx⟩:=W.tn hg;obtain⟨x,hx,ex⟩:=hx hk;obtain⟨_,he,_,hc,hs⟩:=W.ok x hx;have hlen:(Lw.llq a.as.rs).length=a.ts.length:=by rw[a.llq]
 have tw:=QInv.twl W hg Q;have hq0:=oa W.hl W.li W.cs hj0 p0.or;have hK:eB r (Lw.llq a.as.rs).length<=eB r j:=gO r (by rw[hlen];exact Q.lv);obtain⟨o1,o2⟩:=rU W.hl W.li W.cs D.al D.hc tw hK hj0 p0;rw[ex];unfold ez;rw[XK hk,e];show ∀sv∈ka l a.as i (l.jo.getD z0.toNat default) x,_;rw[au hj0];unfold ka;rw[XJ oz];have hp:=OK (ts:=Lw.llq a.as.rs) (p:=ao l j0 i) (o:=aC l a.as j0 i) hc hs hq0 tw.five o1 o2
 have hp2:Pq.ok a.ts.length (nF s g j r E) (kW l a.as i j0 x):=by
  have:=yk (a:=0) (b:=0) hp (e:=nF s g j r E) (by unfold nF lD;omega) (by unfold nF lD;omega);exact Pq.ok.lv this hlen
 refine it ⟨?_,?_,?_,?_⟩
 ·exact tw
 ·show(Lw.llq a.as.rs).length<=j;rw[hlen];exact Q.lv
 ·intro p hp3;show Pq.ok (Lw.llq a.as.rs).length _ p;rw[hlen];rcases Ey hp3 with h |h
  ·exact(Q.bs p h).up (WZ _) Q.tw.five (by unfold nF lD;omega)
  ·rw[List.mem_singleton.1 h];exact hp2
 ·exact(uw _ _ _).trans Q.ln
theorem QInv.dy{n y:Nat}(ok:ek s g (n+1) (y+1) j r E=true)(hk:gr.kind≠0):∀sv∈ez l a.as gr (bZ gr xs),QInv l (j+1) (r+kr s j r E) (sS s j r E) (a.nxt gr sv):=by
 obtain⟨⟨hj,hE,hr,hX,hJ⟩,_⟩:=q7 ok;have D:DyR l a.as:=⟨QInv.dyW W hg Q oz oz,QInv.dyS W hg Q hr hj⟩
 have O:=QInv.dyOk W hg Q (F:=E) oz (WZ _);have hlen:(Lw.llq a.as.rs).length=a.ts.length:=by rw[a.llq]
 have hlv:(Lw.llq a.as.rs).length<=j:=by rw[hlen];exact Q.lv
 have tw:=QInv.twl W hg Q
 have Z:Szs (Lw.llq a.as.rs).length r (3*E+2*s+2*eB r j+10) (8*s+5) (kr s j r E) (eB r j) (eB (r+kr s j r E) (j+1)) (Cu s j r E) (vH s j r E):=by
  refine⟨by omega,gO r hlv,?_,hX,gO _ oz,?_,?_,hJ,?_,?_⟩
  ·unfold kr lD;omega
  ·exact zC r _ hlv
  ·exact zC _ _ hlv
  ·exact Xj (gO r oz) (r4 oz _)
  ·exact E3 oz _ _
 have hn:(Lw.llq a.as.rs).length<=1:=by omega
 have key:∀sv∈ez l a.as gr (bZ gr xs),Xz (Lw.llq a.as.rs) r (kr s j r E) sv.ts/\∀p∈sv.ps,Pq.ok sv.ts.length (sS s j r E) p:=by
  unfold ez;rw[XJ hk]
  by_cases hk1:gr.kind=1
  ·obtain⟨i,k2,z0,z1,z2,j0,j1,j2,P⟩:=O.rrr hk1;obtain⟨e0,e1,e2,b0,b1,_⟩:=P.at;rw[XK hk1,e0,e1,e2,b0,b1];exact UB D hn W.cs tw Z (WZ _) P
  ·rw[XJ hk1]
   by_cases hk2:gr.kind=2
   ·obtain⟨i,z0,z1,j0,j,P,ha,hb⟩:=O.pr hk2;obtain⟨e0,e1,b0,_⟩:=P.at;rw[XK hk2,e0,e1,b0];exact Wu D hn W.cs tw Z (WZ _) P ha hb
   ·obtain⟨i,z0,z1,j0,j,P,_,hj,hb⟩:=O.rp hk hk1 hk2;obtain⟨e0,e1,b0,hk3⟩:=P.at;rw[XJ hk2,e0,e1,b0];exact Kw D hn W.cs tw Z (WZ _) P hj hb
 intro sv hsv;obtain⟨hx,hp⟩:=key sv hsv;have h5:=hx.tw.five;have hup:=hx.up;have hln:=hx.ln;rw[hlen]at hup hln;refine⟨hx.tw,?_,?_,?_⟩
 ·show sv.ts.length<=j+1;have:=Q.lv;omega
 ·intro p hp3;rcases Ey hp3 with h |h
  ·exact(Q.bs p h).up hup h5 (by unfold sS oZ wZ lD;omega)
  ·exact hp p h
 ·exact(uw _ _ _).trans Q.ln
end
def lV(l:Li)(a:As)(g:Gr)(x:Tn):Nat:=(jp l a g x).2
def fx(F:Int->Bool)(sg:Bool)(f:Sv->List Aq×Nat):List Sv->List Aq×Nat
  |[]=>([],0)
  |s::r=>if F s.mode=false then fx F sg f r else if(f s).2≠0 then f s else if sg=true then f s else((f s).1++(fx F sg f r).1,(fx F sg f r).2)
def fM(F:Nat->Int->Bool)(sg:Bool)(l:Li)(xs:List Tn)(gs:List Gr):Nat->Aq->List Aq×Nat
  |0,a=>([a],0)
  |n+1,a=>if lV l a.as (gs.getD a.ms.length default) (bZ (gs.getD a.ms.length default) xs)≠0 then([],lV l a.as (gs.getD a.ms.length default) (bZ (gs.getD a.ms.length default) xs))
    else fx (F a.ms.length) sg (fun s=>fM F sg l xs gs n (a.nxt (gs.getD a.ms.length default) s)) (ez l a.as (gs.getD a.ms.length default) (bZ (gs.getD a.ms.length default) xs))
theorem WB{l:Li}{xs:List Tn}{s g:Nat}(W:WkC l xs s g){k:Nat}{gr:Gr}(hg:(splitG l)[k]?=some gr){j r E:Nat}{a:Aq}(Q:QInv l j r E a){n y:Nat}(ok:ek s g (n+1) y j r E=true)(hy:gr.kind≠0->0<y) :
  SolP (ez l a.as gr (bZ gr xs)) gr.kind a.ts.length gr.bo.length:=by
 obtain⟨⟨hE,hr,hj⟩,_⟩:=sa ok;have D:=QInv.dyW W hg Q oz hr;have h3:(Lw.llq a.as.rs).length<=2:=by rw[a.llq];have:=Q.lv;omega
 have hlen:(Lw.llq a.as.rs).length=a.ts.length:=by rw[a.llq]
 rw[<- hlen]
 by_cases hk:gr.kind=0
 ·exact GH hE D h3 (QInv.dyOk W hg Q (F:=E) oz (WZ _)) (fun h=>absurd hk h) (W.tn hg).2.1
 ·have hy:=hy hk;obtain ⟨y',rfl⟩:∃ y',y = y' + 1:=⟨y - 1,by omega⟩
  obtain⟨⟨hj,hE,hr,hX,hJ⟩,_⟩:=q7 ok;exact GH oz D h3 (QInv.dyOk W hg Q (F:=3900000) oz hE) (fun _=>⟨rfl,QInv.dyS W hg Q hr hj⟩) (W.tn hg).2.1
open Lean.Grind (CommRing)
theorem pR{ts:LL}(hp:dL ts){X:Et ts}(h:0<ak X):dL (aS ts (sX X)):=by
 intro j hj;rw[dC]at hj;rw[xc oz];rcases W3 j ts.length with h9 |h9
 ·rw[uv h9];exact hp j h9
 ·have : j = ts.length := by omega
  subst this
  have e1:ay (aS ts (sX X)) ts.length=X:=by
   show ae ts.length ((aS ts (sX X)).getD ts.length [])=_;rw[sG,qv];exact bf _ _
  rw[e1];exact Int.le_of_lt h
def bR(T:LL)(p:Pq)(m:Rat×Rat):P2 T:=(dE T p.c*qE m.1-dE T p.s*qE m.2+dE T p.x,dE T p.s*qE m.1+dE T p.c*qE m.2+dE T p.y)
def CH(T:LL)(p:Pq):Prop:=ak (dE T p.c*dE T p.c+dE T p.s*dE T p.s-1)=0
def aX(l:Li)(T:LL)(bs:List Pq)(b pt:Int):P2 T:=bR T (bs.getD b.toNat bc) (aQ l b pt)
def JH(l:Li)(T:LL)(bs:List Pq)(j:Jt):Prop :=
  if j.kind=0 then ak ((aX l T bs j.a j.point).1-(aX l T bs j.b j.on).1)=0/\ak ((aX l T bs j.a j.point).2-(aX l T bs j.b j.on).2)=0
  else ak (jr (aR (aX l T bs j.b j.to) (aX l T bs j.b j.on)) (aR (aX l T bs j.a j.point) (aX l T bs j.b j.on)))=0
theorem CU{ts:LL}{q:Rat}(h:q≠0):(iE (qE q)*qE q:Et ts)=1:=by
 have e:(iE (qE q):Et ts)=qE (1/q):=vl (ay ts) ts.length q;rw[e,<- jk,show 1/q*q=((1:Nat):Rat) by rw[show(((1:Nat):Rat))=1 from rfl];grind];rfl
section
variable{T:LL}{u p c:Rat×Rat}{w o:P2 T}
theorem vS:dE T (gz u w p o).c=dg u w:=bf _ _
theorem uC:dE T (gz u w p o).s=db u w:=bf _ _
theorem Q0:dE T (gz u w p o).x=pO u w p o:=bf _ _
theorem Rw:dE T (gz u w p o).y=pb u w p o:=bf _ _
theorem mW(m:Rat×Rat):bR T (gz u w p o) m=(o.1+(dg u w*qE (m.1-p.1)-db u w*qE (m.2-p.2)),o.2+(db u w*qE (m.1-p.1)+dg u w*qE (m.2-p.2))):=by
 unfold bR;rw[vS,uC,Q0,Rw,mc,mc];unfold pO pb;refine Prod.ext ?_ ?_
 ·dsimp only;grind
 ·dsimp only;grind
theorem r5:bR T (gz u w p o) p=o:=by
 rw[mW,show p.1-p.1=0 by grind,show p.2-p.2=0 by grind,BT];refine Prod.ext ?_ ?_
 ·dsimp only;grind
 ·dsimp only;grind
theorem Ce(h:bW u u≠0):(dg u w*qE u.1-db u w*qE u.2=w.1/\db u w*qE u.1+dg u w*qE u.2=w.2):=by
 have hn:(jR u:Et T)=qE u.1*qE u.1+qE u.2*qE u.2:=by
  show qE (u.1*u.1+u.2*u.2)=_;rw[no,jk,jk]
 exact(Ej hn (CU h) rfl rfl).1
theorem tI(h:bW (cg c p) (cg c p)≠0):bR T (gz (cg c p) w p o) c=(o.1+w.1,o.2+w.2):=by
 rw[mW];have g:=Ce (w:=w) h;have e1:(qE (c.1-p.1):Et T)=qE (cg c p).1:=rfl;have e2:(qE (c.2-p.2):Et T)=qE (cg c p).2:=rfl;rw[e1,e2,g.1,g.2]
theorem ux(hp:dL T)(h:bW u u≠0)(hw:ak (w.1*w.1+w.2*w.2-qE (bW u u))=0):CH T (gz u w p o):=by
 unfold CH;rw[vS,uC]
 have hn:(jR u:Et T)=qE u.1*qE u.1+qE u.2*qE u.2:=by
  show qE (u.1*u.1+u.2*u.2)=_;rw[no,jk,jk]
 have hi:(iE (jR u)*jR u:Et T)=1:=CU h;have e:=congrArg (ah hp) hn;have ei:=congrArg (ah hp) hi;have ew:ah hp w.1*ah hp w.1+ah hp w.2*ah hp w.2=ah hp (jR u):=(km hp (x:=w.1*w.1+w.2*w.2) (y:=jR u)).2 hw;have g:=(Ej (R:=Zq hp) (n:=ah hp (jR u)) (i:=ah hp (iE (jR u))) (u1:=ah hp (qE u.1)) (u2:=ah hp (qE u.2)) (c:=ah hp (dg u w)) (s:=ah hp (db u w)) (w1:=ah hp w.1) (w2:=ah hp w.2) e ei rfl (by unfold db;rw[bB,bJ,bB,bB])).2 ew;refine(km hp (x:=dg u w*dg u w+db u w*db u w) (y:=1)).1 ?_;exact g
end
def aK(a:As):List Pq:=a.bs.map fun b=>⟨lq b.c,lq b.s,lq b.x,lq b.y⟩
theorem kN(q:Aq):aK q.as=q.bs:=by
 unfold aK Aq.as;rw[map_map]
 conv=>rhs;rw[<- List.map_id q.bs]
 refine List.map_congr_left fun p _=>?_
 show(⟨lq (p.c.map rt),lq (p.s.map rt),lq (p.x.map rt),lq (p.y.map rt)⟩:Pq)=p;rw[ef,ef,ef,ef]
theorem gQ(l:Li)(a:As)(b pt:Int):ba l a b pt=aX l (llq a.rs) (aK a) b pt:=by
 have e:(aK a).getD b.toNat bc=⟨lq (a.bs.getD b.toNat default).c,lq (a.bs.getD b.toNat default).s,lq (a.bs.getD b.toNat default).x,lq (a.bs.getD b.toNat default).y⟩:=by
  unfold aK;rw[WV,WV,W0];cases a.bs[b.toNat]? <;> rfl
 unfold aX;rw[e];rfl
def Nq(n:Nat)(p:Pq):Prop:=p.c.length<=2^n/\p.s.length<=2^n/\p.x.length<=2^n/\p.y.length<=2^n
section
variable{ts T:LL}(L:Lf ts T)
include L
theorem Lf.add(x y:Et ts):ah L.pos (aq T (x+y))=ah L.pos (aq T x)+ah L.pos (aq T y):=L.hm.add x y
theorem Lf.mul(x y:Et ts):ah L.pos (aq T (x*y))=ah L.pos (aq T x)*ah L.pos (aq T y):=L.hm.mul x y
theorem Lf.sub(x y:Et ts):ah L.pos (aq T (x-y))=ah L.pos (aq T x)-ah L.pos (aq T y):=L.hm.sub x y
theorem Lf.one:ah L.pos (aq T (1:Et ts))=1:=L.hm.one
theorem Lf.at{p:Pq}(hp:Nq ts.length p)(m:Rat×Rat):ah L.pos (bR T p m).1=ah L.pos (aq T (bR ts p m).1)/\ah L.pos (bR T p m).2=ah L.pos (aq T (bR ts p m).2):=by
 obtain⟨h1,h2,h3,h4⟩:=hp;unfold bR;dsimp only;constructor
 ·rw[L.add,L.sub,L.mul,L.mul,L.low _ h1,L.low _ h2,L.low _ h3,L.q,L.q,eP,bJ,bB,bB]
 ·rw[L.add,L.add,L.mul,L.mul,L.low _ h1,L.low _ h2,L.low _ h4,L.q,L.q,eP,eP,bB,bB]
theorem Lf.zero(x:Et ts):ak (aq T x)=0↔ak x=0:=(eU L.pos).symm.trans (L.hm.zero x)
theorem Lf.ch{p:Pq}(hp:Nq ts.length p)(h:CH ts p):CH T p:=by
 obtain⟨h1,h2,h3,h4⟩:=hp;have e:=(L.zero _).2 h;have e1:=(eU L.pos).2 e;refine(eU L.pos).1 ?_;rw[L.sub,L.add,L.mul,L.mul,L.low _ h1,L.low _ h2,L.one]at e1;rw[bJ,eP,bB,bB];exact e1
end
end Go.Lw
namespace Go.Lw
open Lean.Grind (CommRing)
def cT(bs bs':List Pq)(n:Nat)(b:Int):Prop:=bs'.getD b.toNat bc=bs.getD b.toNat bc/\Nq n (bs.getD b.toNat bc)
section
variable{ts T:LL}(L:Lf ts T)
include L
theorem Lf.pt(l:Li){bs bs':List Pq}{b:Int}(h:cT bs bs' ts.length b)(pt:Int) :
  ah L.pos (aX l T bs' b pt).1=ah L.pos (aq T (aX l ts bs b pt).1)/\ah L.pos (aX l T bs' b pt).2=ah L.pos (aq T (aX l ts bs b pt).2):=by
 unfold aX;rw[h.1];exact L.at h.2 _
end
section
variable{T:LL}(hp:dL T)
include hp
theorem uD{l:Li}{bs:List Pq}{j:Jt}(hk:j.kind=0)(h1:ah hp (aX l T bs j.a j.point).1=ah hp (aX l T bs j.b j.on).1)(h2:ah hp (aX l T bs j.a j.point).2=ah hp (aX l T bs j.b j.on).2):JH l T bs j:=by
 unfold JH;rw[XK hk];exact⟨(km hp).1 h1,(km hp).1 h2⟩
theorem BH{l:Li}{bs:List Pq}{j:Jt}(hk:j.kind≠0)
  (h:(ah hp (aX l T bs j.b j.to).1-ah hp (aX l T bs j.b j.on).1)*(ah hp (aX l T bs j.a j.point).2-ah hp (aX l T bs j.b j.on).2)-(ah hp (aX l T bs j.b j.to).2-ah hp (aX l T bs j.b j.on).2)*(ah hp (aX l T bs j.a j.point).1-ah hp (aX l T bs j.b j.on).1)=0):JH l T bs j:=by
 unfold JH;rw[XJ hk];refine(eU hp).1 ?_;unfold jr crsE aR;dsimp only;rw[bJ,bB,bB,bJ,bJ,bJ,bJ];exact h
end
section
variable{ts T:LL}(L:Lf ts T)
include L
theorem Lf.jh{l:Li}{bs bs':List Pq}{j:Jt}(ha:cT bs bs' ts.length j.a)(hb:cT bs bs' ts.length j.b)(h:JH l ts bs j):JH l T bs' j:=by
 have a:=L.pt l ha;have b:=L.pt l hb
 by_cases hk:j.kind=0
 ·unfold JH at h;rw[XK hk]at h;have e1:=(eU L.pos).2 ((L.zero _).2 h.1);have e2:=(eU L.pos).2 ((L.zero _).2 h.2);rw[L.sub]at e1 e2;refine uD L.pos hk ?_ ?_
  ·rw[(a _).1,(b _).1];grind
  ·rw[(a _).2,(b _).2];grind
 ·unfold JH at h;rw[XJ hk]at h;have e1:=(eU L.pos).2 ((L.zero _).2 h);unfold jr crsE aR at e1;dsimp only at e1;simp only[L.sub,L.mul]at e1;refine BH L.pos hk ?_;rw[(a _).1,(a _).2,(b _).1,(b _).2,(b _).1,(b _).2];exact e1
end
section
variable{l:Li}{a:As}{T:LL}(L:Lf (llq a.rs) T)
include L
theorem Lf.pin{bs':List Pq}{j:Jt}{i:Int}(hk:j.kind=0)(tie:(j.a=i/\cT (aK a) bs' (llq a.rs).length j.b)\/(j.a≠i/\j.b=i/\cT (aK a) bs' (llq a.rs).length j.a))
  (h:bR T (bs'.getD i.toNat bc) (ao l j i)=(aq T (aC l a j i).1,aq T (aC l a j i).2)):JH l T bs' j:=by
 have h1:=congrArg Prod.fst h;have h2:=congrArg Prod.snd h;dsimp only at h1 h2;rcases tie with⟨e,hs⟩ |⟨e,e2,hs⟩
 ·have b:=L.pt l hs j.on;unfold ao aC at h1 h2;simp only[XK e]at h1 h2;rw[gQ]at h1 h2;refine uD L.pos hk ?_ ?_
  ·rw[b.1];unfold aX;rw[e];exact congrArg (ah L.pos) h1
  ·rw[b.2];unfold aX;rw[e];exact congrArg (ah L.pos) h2
 ·have b:=L.pt l hs j.point;unfold ao aC at h1 h2;simp only[XJ e]at h1 h2;rw[gQ]at h1 h2;refine uD L.pos hk ?_ ?_
  ·rw[b.1]
   conv=>rhs;unfold aX
   rw[e2];exact(congrArg (ah L.pos) h1).symm
  ·rw[b.2]
   conv=>rhs;unfold aX
   rw[e2];exact(congrArg (ah L.pos) h2).symm
end
theorem j9{bs:List Pq}{i k:Int}{p:Pq}(hi:0<=i)(hk:0<=k)(h:k≠i):(bs.set i.toNat p).getD k.toNat bc=bs.getD k.toNat bc:=by
 rw[WV,WV,List.getElem?_set_ne oz]
theorem mz{bs:List Pq}{i:Nat}{p:Pq}(h:i<bs.length):(bs.set i p).getD i bc=p:=by
 rw[WV,List.getElem?_set_self h];rfl
theorem Kt(n:Nat):Nq n bc:=⟨W7 _,W7 _,W7 _,W7 _⟩
theorem zQ{bs:List Pq}{n:Nat}(h:∀p∈bs,Nq n p)(i:Nat):Nq n (bs.getD i bc):=by
 rw[WV];cases e:bs[i]? with
 |none=>exact Kt n
 |some p=>exact h p (WU e)
structure GrpH(l:Li)(a:As)(g:Gr)(s:Sv):Prop where
  lf:Lf (llq a.rs) s.ts
  js:∀z∈g.jo,JH l s.ts (a5 (aK a) g.bo s.ps) (l.jo.getD z.toNat default)
  cs:∀b∈g.bo,CH s.ts ((a5 (aK a) g.bo s.ps).getD b.toNat bc)
theorem Qh{R:Type}[CommRing R]{C S a1 a2 b1 b2 x1 x2 P1 P2 o1 o2:R}(hcs:C*C+S*S=1)(g:x1*(P2-o2)-x2*(P1-o1)=(a1-b1)*b2-(a2-b2)*b1)
  (y1:C*(a1-b1)-S*(a2-b2)=x1) (y2:S*(a1-b1)+C*(a2-b2)=x2) :
  (o1+(C*a1-S*a2)-(o1+(C*b1-S*b2)))*(P2-(o2+(S*b1+C*b2)))-(o2+(S*a1+C*a2)-(o2+(S*b1+C*b2)))*(P1-(o1+(C*b1-S*b2)))=0:=by
 have e1:o1+(C*a1-S*a2)-(o1+(C*b1-S*b2))=x1:=by rw[<- y1];grind
 have e2:o2+(S*a1+C*a2)-(o2+(S*b1+C*b2))=x2:=by rw[<- y2];grind
 rw[e1,e2];have e3:x1*(P2-(o2+(S*b1+C*b2)))-x2*(P1-(o1+(C*b1-S*b2)))=(x1*(P2-o2)-x2*(P1-o1))-(x1*(S*b1+C*b2)-x2*(C*b1-S*b2)):=by clear hcs g y1 y2 e1 e2;grind
 have e4:x1*(S*b1+C*b2)-x2*(C*b1-S*b2)=((a1-b1)*b2-(a2-b2)*b1)*(C*C+S*S):=by rw[<- y1,<- y2];clear hcs g y1 y2 e1 e2 e3;grind
 rw[e3,e4,g,hcs];grind
section
variable{l:Li}{a:As}{r:Nat}(tw:Tw (llq a.rs) r)(hN:∀p∈aK a,Nq (llq a.rs).length p)
include tw hN
theorem oF{bs':List Pq}{b:Int}(h:bs'.getD b.toNat bc=(aK a).getD b.toNat bc):cT (aK a) bs' (llq a.rs).length b:=by
 have:=tw;exact⟨h,zQ hN _⟩
theorem Df{u:Rat×Rat}(h:bW u u≠0):0<ak (qE (bW u u):Et (llq a.rs)):=by
 have:=tw;have:=hN;have h0:0<=bW u u:=Rat.add_nonneg (oM u.1) (oM u.2)
 have h1:0<bW u u:=by
  rcases Rat.le_iff_lt_or_eq.1 h0 with g |g
  ·exact g
  ·exact absurd g.symm h
 rw[ya,vB h1];decide
theorem NC{i k z0 z1 z2:Int}{j0 j1 j2:Jt}(ne:i≠k)(t0:TieO l 0 [i,k] z0 i j0)(t1:TieO l 0 [i,k] z1 k j1)(h2:l.jo[z2.toNat]?=some j2)(kd:j2.kind=0)
  (tie:(j2.a=i/\j2.b=k)\/(j2.b=i/\j2.a=k)) (hi:0<=i) (hk:0<=k) (hil:i.toNat<(aK a).length) (hkl:k.toNat<(aK a).length) (hn:∀j∈l.jo,0<=j.a/\0<=j.b)
  {s:Sv} (hs:s∈jH l a i k j0 j1 j2):GrpH l a ⟨1,[i,k],[z0,z1,z2],0⟩ s:=by
 unfold jH at hs;split at hs
 ·cases hs
 ·rename_i hz;obtain⟨w1,w2⟩:=rY (Bool.eq_false_iff.2 hz);split at hs
  ·cases hs
  ·rename_i hc;have hc:=Decidable.not_not.1 hc;have geo:=Ra tw (fun X hX=>pR tw.pos hX) hc (Df tw hN w1);unfold jI at hs;obtain ⟨m,hm,rfl⟩:=List.mem_map.1 hs;obtain ⟨x,hx⟩:=ax (List.mem_range.1 hm);have G:=geo x (WU hx);unfold jx;rw [au hx];have e0:TieO l 0 [i,k] z0 i j0:=t0;obtain ⟨n0,n1⟩:=hn j0 (WU t0.hj);obtain ⟨n2,n3⟩:=hn j1 (WU t1.hj);have hne:i.toNat ≠ k.toNat:=by omega
   generalize hM:dY (aC l a j0 i) (aC l a j1 k) (qE (bE (ao l j2 i) (ao l j0 i))) (qE (bE (ao l j2 k) (ao l j1 k)))=M at *;obtain⟨B0,hB0⟩:∃B0,B0=kF M.ts x ⟨ao l j0 i,P2.l (aC l a j0 i),ao l j2 i⟩:=⟨_,rfl⟩
   obtain⟨B1,hB1⟩:∃B1,B1=kF M.ts x ⟨ao l j1 k,P2.l (aC l a j1 k),ao l j2 k⟩:=⟨_,rfl⟩
   have hbs:a5 (aK a) [i,k] [B0,B1]=((aK a).set i.toNat B0).set k.toNat B1:=rfl;have g0:(a5 (aK a) [i,k] [B0,B1]).getD i.toNat bc=B0:=by rw[hbs,j9 hk hi ne,mz hil]
   have g1:(a5 (aK a) [i,k] [B0,B1]).getD k.toNat bc=B1:=by rw[hbs,mz (by rw[XI];exact hkl)]
   have gn:∀b:Int,0<=b->b∉[i,k]->cT (aK a) (a5 (aK a) [i,k] [B0,B1]) (llq a.rs).length b:=fun b h0 hb=>oF tw hN (by
    rw[hbs,j9 hk h0 (fun e=>hb (by simp[e])),j9 hi h0 (fun e=>hb (by simp[e]))])
   have p0:bR M.ts B0 (ao l j0 i)=(aq M.ts (aC l a j0 i).1,aq M.ts (aC l a j0 i).2):=by rw[hB0];exact r5
   have p1:bR M.ts B1 (ao l j1 k)=(aq M.ts (aC l a j1 k).1,aq M.ts (aC l a j1 k).2):=by rw[hB1];exact r5
   have q0:bR M.ts B0 (ao l j2 i)=(dE M.ts x.1,dE M.ts x.2):=by
    rw[hB0];refine(tI w1).trans ?_;unfold kE jG;refine Prod.ext ?_ ?_
    ·dsimp only;grind
    ·dsimp only;grind
   have q1:bR M.ts B1 (ao l j2 k)=(dE M.ts x.1,dE M.ts x.2):=by
    rw[hB1];refine(tI w2).trans ?_;unfold kE jG;refine Prod.ext ?_ ?_
    ·dsimp only;grind
    ·dsimp only;grind
   refine⟨G.lf,?_,?_⟩
   ·intro z hz;show JH l M.ts (a5 (aK a) [i,k] [_,_]) _;rw[<- hB0,<- hB1];rcases List.mem_cons.1 hz with rfl |hz
    ·rw [au t0.hj];refine G.lf.pin t0.kd (i:=i) ?_ (by rw [g0]; exact p0);rcases t0.tie with ⟨e,hb⟩ | ⟨e,hb⟩
     ·exact .inl ⟨e,gn _ n1 hb⟩
     ·exact .inr ⟨fun e2=>hb (by simp[e2]),e,gn _ n0 hb⟩
    ·rcases List.mem_cons.1 hz with rfl |hz
     ·rw [au t1.hj];refine G.lf.pin t1.kd (i:=k) ?_ (by rw [g1]; exact p1);rcases t1.tie with ⟨e,hb⟩ | ⟨e,hb⟩
      ·exact .inl ⟨e,gn _ n3 hb⟩
      ·exact .inr ⟨fun e2=>hb (by simp[e2]),e,gn _ n2 hb⟩
     ·rw[List.mem_singleton.1 hz,au h2]
      have key:aX l M.ts (a5 (aK a) [i,k] [B0,B1]) j2.a j2.point=aX l M.ts (a5 (aK a) [i,k] [B0,B1]) j2.b j2.on:=by
       unfold aX;rcases tie with⟨e,e'⟩ |⟨e,e'⟩
       ·have c0 : ao l j2 i = aQ l i j2.point := by unfold ao; rw [XK e]
        have c1:ao l j2 k=aQ l k j2.on:=by unfold ao;rw[XJ oz]
        rw[e,e',g0,g1,<- c0,<- c1,q0,q1]
       ·have c0 : ao l j2 k = aQ l k j2.point := by unfold ao; rw [XK e']
        have c1:ao l j2 i=aQ l i j2.on:=by unfold ao;rw[XJ oz]
        rw[e,e',g0,g1,<- c0,<- c1,q0,q1]
      exact uD G.lf.pos kd (by rw[key]) (by rw[key])
   ·intro b hb;show CH M.ts ((a5 (aK a) [i,k] [_,_]).getD b.toNat bc);rw[<- hB0,<- hB1];rcases List.mem_cons.1 hb with rfl |hb
    ·rw[g0,hB0];refine ux G.lf.pos w1 ?_;have:=G.c1;rw[G.lf.q]at this;exact this
    ·rw[List.mem_singleton.1 hb,g1,hB1];refine ux G.lf.pos w2 ?_;have:=G.c2;rw[G.lf.q]at this;exact this
theorem WC{i z0 z1:Int}{j0 j:Jt}(t0:TieO l 0 [i] z0 i j0)(t1:TieO l 1 [i] z1 i j)(ha:j.a=i)(hi:0<=i)(hil:i.toNat<(aK a).length)(hn:∀j∈l.jo,0<=j.a/\0<=j.b)
  {s:Sv} (hs:s∈jb l a i j0 j):GrpH l a ⟨2,[i],[z0,z1],0⟩ s:=by
 unfold jb at hs;split at hs
 ·cases hs
 ·rename_i hz;have w1:=uu (Bool.eq_false_iff.2 hz);split at hs
  ·cases hs
  ·rename_i hc;have hc:=Decidable.not_not.1 hc;have geo:=JA tw (fun X hX=>pR tw.pos hX) (c:=aC l a j0 i) (z:=qE (bE (aQ l i j.point) (ao l j0 i))) hc;unfold jI at hs;obtain⟨m,hm,rfl⟩:=List.mem_map.1 hs;obtain⟨x,hx⟩:=ax (List.mem_range.1 hm);have G:=geo x (WU hx);have L:=G.lf;unfold jx;rw[au hx];obtain⟨n0,n1⟩:=hn j0 (WU t0.hj);obtain⟨n2,n3⟩:=hn j (WU t1.hj);generalize hM:dX (ba l a j.b j.on) (ba l a j.b j.to) (aC l a j0 i) (qE (bE (aQ l i j.point) (ao l j0 i)))=M at *;obtain⟨B0,hB0⟩:∃B0,B0=kF M.ts x ⟨ao l j0 i,P2.l (aC l a j0 i),aQ l i j.point⟩:=⟨_,rfl⟩
   have hbs:a5 (aK a) [i] [B0]=(aK a).set i.toNat B0:=rfl;have g0:(a5 (aK a) [i] [B0]).getD i.toNat bc=B0:=by rw[hbs,mz hil]
   have gn:∀b:Int,0<=b->b∉[i]->cT (aK a) (a5 (aK a) [i] [B0]) (llq a.rs).length b:=fun b h0 hb=>oF tw hN (by
    rw[hbs,j9 hi h0 (fun e=>hb (by simp[e]))])
   have p0:bR M.ts B0 (ao l j0 i)=(aq M.ts (aC l a j0 i).1,aq M.ts (aC l a j0 i).2):=by rw[hB0];exact r5
   have q0:bR M.ts B0 (aQ l i j.point)=(dE M.ts x.1,dE M.ts x.2):=by
    rw[hB0];refine(tI w1).trans ?_;unfold kE jG;refine Prod.ext ?_ ?_
    ·dsimp only;grind
    ·dsimp only;grind
   have hjb:cT (aK a) (a5 (aK a) [i] [B0]) (llq a.rs).length j.b:=by
    rcases t1.tie with⟨e,hb⟩ |⟨e,hb⟩
    ·exact gn _ n3 hb
    ·exact absurd (by simp[ha]) hb
   refine⟨G.lf,?_,?_⟩
   ·intro z hz;show JH l M.ts (a5 (aK a) [i] [_]) _;rw[<- hB0];rcases List.mem_cons.1 hz with rfl |hz
    ·rw [au t0.hj];refine L.pin t0.kd (i:=i) ?_ (by rw [g0]; exact p0);rcases t0.tie with ⟨e,hb⟩ | ⟨e,hb⟩
     ·exact .inl ⟨e,gn _ n1 hb⟩
     ·exact .inr ⟨fun e2=>hb (by simp[e2]),e,gn _ n0 hb⟩
    ·rw [List.mem_singleton.1 hz, au t1.hj];refine BH L.pos (by rw [t1.kd]; decide) ?_;have ec:=(eU L.pos).2 G.l;rw [bJ,bB,bB,bJ,bJ,bJ,bJ,gQ,gQ] at ec;have on:=L.pt l hjb j.on;have to:=L.pt l hjb j.to
     have pp:aX l M.ts (a5 (aK a) [i] [B0]) j.a j.point=(dE M.ts x.1,dE M.ts x.2):=by
      unfold aX;rw[ha,g0,q0]
     rw[pp,on.1,on.2,to.1,to.2];exact ec
   ·intro b hb;show CH M.ts ((a5 (aK a) [i] [_]).getD b.toNat bc);rw[<- hB0,List.mem_singleton.1 hb,g0,hB0];refine ux L.pos w1 ?_;have:=G.c;rw[L.q]at this;exact this
theorem BM{i z0 z1:Int}{j0 j:Jt}(t0:TieO l 0 [i] z0 i j0)(t1:TieO l 1 [i] z1 i j)(ha:j.a≠i)(hi:0<=i)(hil:i.toNat<(aK a).length)(hn:∀j∈l.jo,0<=j.a/\0<=j.b)(hv:bW (cw l i j) (cw l i j)≠0)
  (hd:ak (cc l a i j0 j)≠0) {T:LL} (L:Lf (llq a.rs) T) {q:List Rat} (hq:ah L.pos (dE T q*dE T q)=ah L.pos (aq T (bp l a i j0 j))) {n:Int} :
  GrpH l a ⟨3,[i],[z0,z1],0⟩ ⟨T,[mQ T (dk l a i j0 j) q],n⟩:=by
 obtain⟨n0,n1⟩:=hn j0 (WU t0.hj);obtain⟨n2,n3⟩:=hn j (WU t1.hj)
 obtain⟨tb,tn⟩:j.b=i/\j.a∉[i]:=by
  rcases t1.tie with⟨e,hb⟩ |h
  ·exact absurd e ha
  ·exact h
 obtain⟨w,hw⟩:∃w:P2 T,w=nJ T q (dk l a i j0 j).h (dk l a i j0 j).d (dk l a i j0 j).w:=⟨_,rfl⟩
 obtain⟨o,ho⟩:∃o:P2 T,o=(aq T (aC l a j0 i).1,aq T (aC l a j0 i).2):=⟨_,rfl⟩
 obtain⟨B0,hB0⟩:∃B0,B0=gz (cw l i j) w (ao l j0 i) o:=⟨_,rfl⟩
 have e0:mQ T (dk l a i j0 j) q=B0:=by rw[hB0,hw,ho];rfl
 rw[e0];have hbs:a5 (aK a) [i] [B0]=(aK a).set i.toNat B0:=rfl;have g0:(a5 (aK a) [i] [B0]).getD i.toNat bc=B0:=by rw[hbs,mz hil]
 have gn:∀b:Int,0<=b->b∉[i]->cT (aK a) (a5 (aK a) [i] [B0]) (llq a.rs).length b:=fun b h0 hb=>oF tw hN (by
  rw[hbs,j9 hi h0 (fun e=>hb (by simp[e]))])
 have hD:ah L.pos (aq T (cc l a i j0 j))=ah L.pos (aq T (bS l a i j0 j).1)*ah L.pos (aq T (bS l a i j0 j).1)+ah L.pos (aq T (bS l a i j0 j).2)*ah L.pos (aq T (bS l a i j0 j).2):=by
  rw[<- L.mul,<- L.mul,<- L.add];rfl
 have hI:ah L.pos (iE (aq T (cc l a i j0 j)))*ah L.pos (aq T (cc l a i j0 j))=1:=wQ L.pos (fun e=>hd ((L.zero _).1 e))
 have hX:ah L.pos (dE T q)*ah L.pos (dE T q)=ah L.pos (qE (iD l i j))*ah L.pos (aq T (cc l a i j0 j))-ah L.pos (qE (cq l i j0 j))*ah L.pos (qE (cq l i j0 j)):=by
  rw[<- bB,hq];unfold bp;rw[L.sub,L.mul,L.mul,L.q,L.q]
 have eh:dE T (dk l a i j0 j).h=qE (cq l i j0 j):=fL _ _;have x1:w.1=(dE T q*aq T (bS l a i j0 j).1-qE (cq l i j0 j)*-aq T (bS l a i j0 j).2)*iE (aq T (cc l a i j0 j)):=by rw[hw,<- eh];rfl
 have x2:w.2=(dE T q*aq T (bS l a i j0 j).2-qE (cq l i j0 j)*aq T (bS l a i j0 j).1)*iE (aq T (cc l a i j0 j)):=by rw[hw,<- eh];rfl
 have G:=Uv hD hI hX (w1:=ah L.pos w.1) (w2:=ah L.pos w.2) (by rw[x1,bB,bJ,bB,bB,Hk]) (by rw[x2,bB,bJ,bB,bB])
 have hc:CH T B0:=by
  rw[hB0];refine ux L.pos hv ?_;refine(km L.pos (x:=w.1*w.1+w.2*w.2) (y:=qE (bW (cw l i j) (cw l i j)))).1 ?_;rw[eP,bB,bB,G.1];rfl
 refine⟨L,?_,?_⟩
 ·intro z hz;show JH l T (a5 (aK a) [i] [B0]) _;rcases List.mem_cons.1 hz with rfl |hz
  ·rw [au t0.hj];refine L.pin t0.kd (i:=i) ?_ (by rw [g0,hB0,r5,ho]);rcases t0.tie with ⟨e,hb⟩ | ⟨e,hb⟩
   ·exact .inl ⟨e,gn _ n1 hb⟩
   ·exact .inr ⟨fun e2=>hb (by simp[e2]),e,gn _ n0 hb⟩
  ·rw [List.mem_singleton.1 hz, au t1.hj];refine BH L.pos (by rw [t1.kd]; decide) ?_;have pp:=L.pt l (gn _ n2 tn) j.point;have eon:aX l T (a5 (aK a) [i] [B0]) j.b j.on = bR T B0 (aQ l i j.on):=by unfold aX; rw [tb,g0]
   have eto:aX l T (a5 (aK a) [i] [B0]) j.b j.to=bR T B0 (aQ l i j.to):=by unfold aX;rw[tb,g0]
   have W1:ah L.pos (aq T (bS l a i j0 j).1)=ah L.pos (aq T (aX l (llq a.rs) (aK a) j.a j.point).1)-ah L.pos o.1:=by
    rw[ho,<- L.sub,<- gQ];rfl
   have W2:ah L.pos (aq T (bS l a i j0 j).2)=ah L.pos (aq T (aX l (llq a.rs) (aK a) j.a j.point).2)-ah L.pos o.2:=by
    rw[ho,<- L.sub,<- gQ];rfl
   have g2:=G.2;rw[W1,W2]at g2;rw[pp.1,pp.2,eon,eto,hB0,mW,mW];have gg:=Ce (w:=w) hv
   have hcs:ah L.pos (dg (cw l i j) w)*ah L.pos (dg (cw l i j) w)+ah L.pos (db (cw l i j) w)*ah L.pos (db (cw l i j) w)=1:=by
    have h9:=(eU L.pos).2 hc;rw[hB0,vS,uC,bJ,eP,bB,bB,Fh]at h9;grind
   have v1:(qE (cw l i j).1:Et T)=qE ((aQ l i j.to).1-(ao l j0 i).1)-qE ((aQ l i j.on).1-(ao l j0 i).1):=by rw[<- mc];congr 1;show(aQ l i j.to).1-(aQ l i j.on).1=_;grind
   have v2:(qE (cw l i j).2:Et T)=qE ((aQ l i j.to).2-(ao l j0 i).2)-qE ((aQ l i j.on).2-(ao l j0 i).2):=by rw[<- mc];congr 1;show(aQ l i j.to).2-(aQ l i j.on).2=_;grind
   have hh:(qE (cq l i j0 j):Et T)=qE (cw l i j).1*qE ((aQ l i j.on).2-(ao l j0 i).2)-qE (cw l i j).2*qE ((aQ l i j.on).1-(ao l j0 i).1):=by
    rw[<- jk,<- jk,<- mc];rfl
   have y1:=congrArg (ah L.pos) gg.1;have y2:=congrArg (ah L.pos) gg.2;rw[hh,bJ,bB,bB]at g2;rw[v1,v2]at g2 y1 y2;simp only[eP,bJ,bB]at g2 y1 y2 ⊢
   revert hcs g2 y1 y2
   generalize ah L.pos (qE ((aQ l i j.to).1-(ao l j0 i).1):Et T)=a1;generalize ah L.pos (qE ((aQ l i j.to).2-(ao l j0 i).2):Et T)=a2;generalize ah L.pos (qE ((aQ l i j.on).1-(ao l j0 i).1):Et T)=b1;generalize ah L.pos (qE ((aQ l i j.on).2-(ao l j0 i).2):Et T)=b2;generalize ah L.pos (dg (cw l i j) w)=C;generalize ah L.pos (db (cw l i j) w)=S;generalize ah L.pos (aq T (aX l (llq a.rs) (aK a) j.a j.point).1)=P1;generalize ah L.pos (aq T (aX l (llq a.rs) (aK a) j.a j.point).2)=P2;generalize ah L.pos o.1=o1;generalize ah L.pos o.2=o2;generalize ah L.pos w.1=x1;generalize ah L.pos w.2=x2;intro hcs g2 y1 y2;exact Qh hcs g2 y1 y2
 ·intro b hb;rw[List.mem_singleton.1 hb];show CH T ((a5 (aK a) [i] [B0]).getD i.toNat bc);rw[g0];exact hc
end
end Go.Lw
namespace Go.Lw
open Lean.Grind (CommRing)
theorem HO(half:Bool)(t:Rat):dF half t*dF half t+dD half t*dD half t=1:=by
 unfold dF dD;cases half
 ·have h:1+t*t≠0:=by
   have:=oM t;intro e;grind
  simp only[Bool.false_eq_true,if_false]
  have e1:(1-t*t)/(1+t*t)*((1-t*t)/(1+t*t))+(t+t)/(1+t*t)*((t+t)/(1+t*t))=((1-t*t)*(1-t*t)+(t+t)*(t+t))*((1+t*t)⁻¹*(1+t*t)⁻¹):=by
   rw[Rat.div_def,Rat.div_def];grind
  rw[e1];have e2:(1+t*t)*(1+t*t)⁻¹=1:=Rat.mul_inv_cancel _ h;generalize(1+t*t)⁻¹=k at e2 ⊢;have e3:((1-t*t)*(1-t*t)+(t+t)*(t+t))*(k*k)=((1+t*t)*k)*((1+t*t)*k):=by grind
  rw[e3,e2,Rat.one_mul]
 ·simp only[if_true];decide +kernel
section
variable{l:Li}{a:As}{r:Nat}(tw:Tw (llq a.rs) r)(hN:∀p∈aK a,Nq (llq a.rs).length p)
include tw hN
theorem VU{i z0 z1:Int}{j0 j:Jt}(t0:TieO l 0 [i] z0 i j0)(t1:TieO l 1 [i] z1 i j)(ha:j.a≠i)(hi:0<=i)(hil:i.toNat<(aK a).length)(hn:∀j∈l.jo,0<=j.a/\0<=j.b)(hv:bW (cw l i j) (cw l i j)≠0)
  {s:Sv} (hs:s∈je l a i j0 j):GrpH l a ⟨3,[i],[z0,z1],0⟩ s:=by
 unfold je at hs;split at hs
 ·cases hs
 ·rename_i h1;split at hs
  ·cases hs
  ·rename_i h2;have hd:=sM tw h2 h1;split at hs
   ·rename_i h3;have hp:=pR tw.pos h3;have L:=rq (bp l a i j0 j) hp;have e:=yy (bp l a i j0 j);unfold jD at hs;obtain⟨m,hm,rfl⟩:=List.mem_map.1 hs;have hm:=List.mem_range.1 hm;unfold iV
    match m,hm with
    |0,_ =>
     refine BM tw hN t0 t1 ha hi hil hn hv hd L ?_;show ah L.pos (bu (bp l a i j0 j)*bu (bp l a i j0 j))=_;rw[e];rfl
    |1,_ =>
     refine BM tw hN t0 t1 ha hi hil hn hv hd L ?_;show ah L.pos (dE _ (sX (-bu (bp l a i j0 j)))*dE _ (sX (-bu (bp l a i j0 j))))=_;rw[d9,show -bu (bp l a i j0 j)*-bu (bp l a i j0 j)=bu (bp l a i j0 j)*bu (bp l a i j0 j) by grind,e];rfl
    |m+2,h=>exact absurd h (by simp)
   ·rename_i h3;have hX:ak (bp l a i j0 j) = 0:=by omega
    have L:=mV (ts:=llq a.rs) tw.pos;unfold jD at hs;obtain⟨m,hm,rfl⟩:=List.mem_map.1 hs;have hm:=List.mem_range.1 hm;unfold iV
    match m,hm with
    |0,_ =>
     refine BM tw hN t0 t1 ha hi hil hn hv hd L ?_;show ah L.pos (dE _ []*dE _ [])=_;have e0:(dE (llq a.rs) []:Et (llq a.rs))=0:=by rw[E.zero_def];exact iA _
     rw[e0,dc];refine((eU L.pos).2 ?_).trans ((eU L.pos).2 hX).symm;rw[show(0:Et (llq a.rs))*0=0 by grind];exact(da _ _ L.pos).zero
    |m+1,h=>exact absurd h (by simp)
theorem SS{i z0 d:Int}{j0:Jt}(t0:TieO l 0 [i] z0 i j0)(hi:0<=i)(hil:i.toNat<(aK a).length)(hn:∀j∈l.jo,0<=j.a/\0<=j.b){x:Tn}
  {s:Sv} (hs:s∈ka l a i j0 x):GrpH l a ⟨0,[i],[z0],d⟩ s/\dE s.ts ((a5 (aK a) [i] s.ps).getD i.toNat bc).c=qE (dF x.half x.t.q)/\dE s.ts ((a5 (aK a) [i] s.ps).getD i.toNat bc).s=qE (dD x.half x.t.q):=by
 unfold ka at hs;split at hs
 ·cases hs
 ·rw[List.mem_singleton.1 hs];obtain⟨n0,n1⟩:=hn j0 (WU t0.hj);have L:=mV (ts:=llq a.rs) tw.pos;have hbs:∀B0,a5 (aK a) [i] [B0]=(aK a).set i.toNat B0:=fun _=>rfl
  have g0:∀B0,(a5 (aK a) [i] [B0]).getD i.toNat bc=B0:=fun B0=>by rw[hbs,mz hil]
  have gn:∀(B0:Pq)(b:Int),0<=b->b∉[i]->cT (aK a) (a5 (aK a) [i] [B0]) (llq a.rs).length b:=fun B0 b h0 hb=>oF tw hN (by
   rw[hbs,j9 hi h0 (fun e=>hb (by simp[e]))])
  have eN:(jR (((1:Int):Rat),0):Et (llq a.rs))=qE 1:=congrArg qE (show((1:Int):Rat)*((1:Int):Rat)+0*0=1 by decide +kernel);have q1:(qE 1:Et (llq a.rs))=1:=rfl
  have hc:(dE (llq a.rs) (kW l a i j0 x).c:Et (llq a.rs))=qE (dF x.half x.t.q):=by
   unfold kW;rw[vS];unfold dg;rw[eN,Bf,lI,BT];grind
  have hsn:(dE (llq a.rs) (kW l a i j0 x).s:Et (llq a.rs))=qE (dD x.half x.t.q):=by
   unfold kW;rw[uC];unfold db;rw[eN,Bf,lI,BT];grind
  refine⟨⟨L,?_,?_⟩,by rw[g0];exact hc,by rw[g0];exact hsn⟩
  ·intro z hz;rw [List.mem_singleton.1 hz,au t0.hj];show JH l (llq a.rs) (a5 (aK a) [i] [kW l a i j0 x]) j0;refine L.pin t0.kd (i:=i) ?_ (by rw [g0,dc,dc]; exact r5);rcases t0.tie with ⟨e,hb⟩ | ⟨e,hb⟩
   ·exact .inl ⟨e,gn _ _ n1 hb⟩
   ·exact .inr ⟨fun e2=>hb (by simp[e2]),e,gn _ _ n0 hb⟩
  ·intro b hb;rw[List.mem_singleton.1 hb];show CH (llq a.rs) ((a5 (aK a) [i] [kW l a i j0 x]).getD i.toNat bc);rw[g0];unfold CH;rw[hc,hsn,<- jk,<- jk,<- no,HO,q1,show(1:Et (llq a.rs))-1=0 by grind];exact(da _ _ L.pos).zero
theorem OE{g:Gr}(hg:DyK l g)(hgb:∀b∈g.bo,0<=b/\b.toNat<(aK a).length)(hli:aG l=0){x:Tn}{s:Sv}(hs:s∈ez l a g x):GrpH l a g s/\(g.kind=0->dE s.ts ((a5 (aK a) g.bo s.ps).getD (aN g 0).toNat bc).c=qE (dF x.half x.t.q)/\dE s.ts ((a5 (aK a) g.bo s.ps).getD (aN g 0).toNat bc).s=qE (dD x.half x.t.q)):=by
 have hn:∀j∈l.jo,0<=j.a/\0<=j.b:=fun j hj=>by
  obtain⟨n,hn⟩:=XC hj;obtain⟨i1,i2,_⟩:=cA hli hn;have i1:=cM i1;have i2:=cM i2;omega
 cases hg with
 | @drv b z d j dr t d0 hd hb =>
  have e:am l ⟨0,[b],[z],d⟩ 0=j:=au t.hj;have hs:s∈ka l a b j x:=by rw[<- e];exact hs
  obtain⟨h1,h2⟩:=hgb b (by simp);have h:=SS (d:=d) tw hN t h1 h2 hn hs;exact⟨h.1,fun _=>h.2⟩
 | @rrr i k z0 z1 z2 j0 j1 j2 ne t0 t1 h0 h2 kd tie =>
  have e0:am l ⟨1,[i,k],[z0,z1,z2],0⟩ 0=j0:=au t0.hj;have e1:am l ⟨1,[i,k],[z0,z1,z2],0⟩ 1=j1:=au t1.hj;have e2:am l ⟨1,[i,k],[z0,z1,z2],0⟩ 2=j2:=au h2;have hs:s∈jH l a i k j0 j1 j2:=by rw[<- e0,<- e1,<- e2];exact hs
  obtain⟨b1,b2⟩:=hgb i (by simp);obtain⟨b3,b4⟩:=hgb k (by simp);exact⟨NC tw hN ne t0 t1 h2 kd tie b1 b3 b2 b4 hn hs,fun h=>absurd h (by simp)⟩
 | @pr i z0 z1 j0 j1 t0 t1 ha =>
  have e0:am l ⟨2,[i],[z0,z1],0⟩ 0=j0:=au t0.hj;have e1:am l ⟨2,[i],[z0,z1],0⟩ 1=j1:=au t1.hj;have hs:s∈jb l a i j0 j1:=by rw[<- e0,<- e1];exact hs
  obtain⟨b1,b2⟩:=hgb i (by simp);exact⟨WC tw hN t0 t1 ha b1 b2 hn hs,fun h=>absurd h (by simp)⟩
 | @rp i z0 z1 j0 j1 t0 t1 ha =>
  have e0:am l ⟨3,[i],[z0,z1],0⟩ 0=j0:=au t0.hj;have e1:am l ⟨3,[i],[z0,z1],0⟩ 1=j1:=au t1.hj;have hs:s∈je l a i j0 j1:=by rw[<- e0,<- e1];exact hs
  obtain⟨b1,b2⟩:=hgb i (by simp)
  have tb:j1.b=i:=by
   rcases t1.tie with⟨e,_⟩ |⟨e,_⟩
   ·exact absurd e ha
   ·exact e
  exact⟨VU tw hN t0 t1 ha b1 b2 hn (un hli t1.hj (by rw[t1.kd];decide) tb) hs,fun h=>absurd h (by simp)⟩
end
end Go.Lw
namespace Go.Lw
open Lean.Grind (CommRing)
theorem Kj{n N:Nat}(hN:N=n+1){r:(k:Nat)->T k}(h:T.sgn r n (r n)=1):T.sgn r N (ae N (cr n))=1:=by
 subst hN;rw[Fe];show T.sgn3 (T.sgn r n (T.zero n)) (T.sgn r n (T.ofQ n 1)) (T.sgn r n (r n)) _=1;rw[h,T.sgn_zero,T.sgn_ofQ];have e:bN 1=1:=by decide +kernel
 rw[e];rfl
theorem Aj{ts:LL}{X:Et ts}(h:ak X=1):ak (bu X)=1:=by
 refine Kj (dC _ _) ?_;rw[xc (WZ _)]
 have e1:ay (aS ts (sX X)) ts.length=X:=by
  show ae ts.length ((aS ts (sX X)).getD ts.length [])=X;rw[sG,qv];exact bf _ _
 rw[e1];exact h
theorem Gv{ts:LL}(hp:dL ts){X:Et ts}(h:0<ak X):ak X=1:=by
 rcases(da _ _ hp).cs X with g |g |g
 ·have g:ak X=-1:=g;omega
 ·have g:ak X=0:=g;omega
 ·exact g
theorem sH{ts:LL}(hp:dL ts){x y:Et ts}(h:ah hp x=ah hp y):ak x=ak y:=(da _ _ hp).sub0 ((km hp).1 h)
theorem yE{ts:LL}(hp:dL ts)(x:Et ts):ak (-x)=-ak x:=(da _ _ hp).neg x
theorem Rs{ts:LL}(hp:dL ts)(x:Et ts):ak (x+x)=ak x:=by
 have H:=da (ay ts) ts.length hp;show sg _ _ (x+x)=sg _ _ x;rcases H.cs x with h |h |h
 ·have n:=H.neg x;have a:=H.padd (x:=-x) (y:=-x) oz oz;have e:=H.neg (x+x);rw[show -(x+x)=-x+-x by grind,a]at e;omega
 ·rw[H.zadd h]
 ·rw[H.padd h oz];exact h.symm
section
variable{R:Type}[CommRing R]
theorem NN{p1 p2 q1 q2 i t a x y:R}(hi:i*(((p1-q1)*(p1-q1)+(p2-q2)*(p2-q2))+((p1-q1)*(p1-q1)+(p2-q2)*(p2-q2)))=1)
  (hx:x=p1+a*i*(q1-p1)+t*(i*-(q2-p2))) (hy:y=p2+a*i*(q2-p2)+t*(i*(q1-p1))) :
  ((q1-p1)*(y-p2)-(q2-p2)*(x-p1))+((q1-p1)*(y-p2)-(q2-p2)*(x-p1))=t:=by
 have e:((q1-p1)*(y-p2)-(q2-p2)*(x-p1))+((q1-p1)*(y-p2)-(q2-p2)*(x-p1))=t*(i*(((p1-q1)*(p1-q1)+(p2-q2)*(p2-q2))+((p1-q1)*(p1-q1)+(p2-q2)*(p2-q2)))):=by
  rw[hx,hy];clear hi hx hy;grind
 rw[e,hi];grind
theorem RF{p1 p2 q1 q2 c1 c2 i t k x y:R}(hi:i*((q1-p1)*(q1-p1)+(q2-p2)*(q2-p2))=1)(hk:k=((q1-p1)*(c1-p1)+(q2-p2)*(c2-p2)+t)*i)
  (hx:x=p1+k*(q1-p1)) (hy:y=p2+k*(q2-p2)):(q1-p1)*(x-c1)+(q2-p2)*(y-c2)=t:=by
 have e:(q1-p1)*(x-c1)+(q2-p2)*(y-c2)=k*((q1-p1)*(q1-p1)+(q2-p2)*(q2-p2))-((q1-p1)*(c1-p1)+(q2-p2)*(c2-p2)):=by
  rw[hx,hy];clear hi hk hx hy;grind
 have e2:k*((q1-p1)*(q1-p1)+(q2-p2)*(q2-p2))=((q1-p1)*(c1-p1)+(q2-p2)*(c2-p2)+t)*(i*((q1-p1)*(q1-p1)+(q2-p2)*(q2-p2))):=by
  rw[hk];clear hi hk hx hy e;grind
 rw[e,e2,hi];grind
theorem Tr{W1 W2 hh i t D w1 w2:R}(hD:D=W1*W1+W2*W2)(hi:i*D=1)(h1:w1=(t*W1-hh*-W2)*i)(h2:w2=(t*W2-hh*W1)*i):w1*W1+w2*W2=t:=by
 have e:w1*W1+w2*W2=t*(i*D):=by rw[h1,h2,hD];clear hD hi h1 h2;grind
 rw[e,hi];grind
theorem OL{ts:LL}{f:Et ts->R}(h:Hm f){p q:P2 ts}{z z2:Et ts}(hd2:ak (aB p q+aB p q)≠0){t x y:R}
  (hx:x=f (cV p q z z2).1+t*f (gB p q).1) (hy:y=f (cV p q z z2).2+t*f (gB p q).2) :
  ((f q.1-f p.1)*(y-f p.2)-(f q.2-f p.2)*(x-f p.1))+((f q.1-f p.1)*(y-f p.2)-(f q.2-f p.2)*(x-f p.1))=t:=by
 have d:=IE h p q;have hi:=h.inv _ hd2;rw[h.add,d]at hi;refine NN hi (a:=f z+((f p.1-f q.1)*(f p.1-f q.1)+(f p.2-f q.2)*(f p.2-f q.2))-f z2) ?_ ?_
 ·rw[hx,wC];unfold cR gB;dsimp only;show f (p.1+qE ((1:Int):Rat)*iE (aB p q+aB p q)*(z+aB p q-z2)*(q.1-p.1))+t*f (qE ((1:Int):Rat)*iE (aB p q+aB p q)*(0-(q.2-p.2)))=_;simp only[h.add,h.mul,h.sub,h.q1,h.nul,d];generalize(f p.1-f q.1)*(f p.1-f q.1)+(f p.2-f q.2)*(f p.2-f q.2)=D;generalize f (iE (aB p q+aB p q))=i;clear hi hx hy d;grind
 ·rw[hy,wC];unfold cR gB;dsimp only;show f (p.2+qE ((1:Int):Rat)*iE (aB p q+aB p q)*(z+aB p q-z2)*(q.2-p.2))+t*f (qE ((1:Int):Rat)*iE (aB p q+aB p q)*(q.1-p.1))=_;simp only[h.add,h.mul,h.sub,h.q1,d];generalize(f p.1-f q.1)*(f p.1-f q.1)+(f p.2-f q.2)*(f p.2-f q.2)=D;generalize f (iE (aB p q+aB p q))=i;clear hi hx hy d;grind
theorem Lp{ts:LL}{f:Et ts->R}(h:Hm f){p q c:P2 ts}(hd:ak (bh p q)≠0){t x y:R}
  (hx:x=f (cR p (bH p q c*iE (bh p q)) (aR q p)).1+t*f (f7 p q).1) (hy:y=f (cR p (bH p q c*iE (bh p q)) (aR q p)).2+t*f (f7 p q).2) :
  (f q.1-f p.1)*(x-f c.1)+(f q.2-f p.2)*(y-f c.2)=t:=by
 have hi:=h.inv _ hd
 have eS:f (bh p q)=(f q.1-f p.1)*(f q.1-f p.1)+(f q.2-f p.2)*(f q.2-f p.2):=by
  show f ((q.1-p.1)*(q.1-p.1)+(q.2-p.2)*(q.2-p.2))=_;simp only[h.add,h.mul,h.sub]
 have eE:f (bH p q c)=(f q.1-f p.1)*(f c.1-f p.1)+(f q.2-f p.2)*(f c.2-f p.2):=by
  show f ((q.1-p.1)*(c.1-p.1)+(q.2-p.2)*(c.2-p.2))=_;simp only[h.add,h.mul,h.sub]
 rw[eS]at hi;refine RF hi (k:=(f (bH p q c)+t)*f (iE (bh p q))) (by rw[eE]) ?_ ?_
 ·rw[hx];unfold cR f7;show f (p.1+bH p q c*iE (bh p q)*(q.1-p.1))+t*f (qE ((1:Int):Rat)*iE (bh p q)*(q.1-p.1))=_;simp only[h.add,h.mul,h.sub,h.q1];generalize f (iE (bh p q))=i;generalize f (bH p q c)=e;clear hi hx hy eS eE;grind
 ·rw[hy];unfold cR f7;show f (p.2+bH p q c*iE (bh p q)*(q.2-p.2))+t*f (qE ((1:Int):Rat)*iE (bh p q)*(q.2-p.2))=_;simp only[h.add,h.mul,h.sub,h.q1];generalize f (iE (bh p q))=i;generalize f (bH p q c)=e;clear hi hx hy eS eE;grind
end
structure CirD(ts T:LL)(x:List Rat×List Rat)(p q:P2 ts)(z z2:Et ts)(m:Int):Prop where
  lf:Lf ts T
  ex:∀d:Et T,ah lf.pos d=(ah lf.pos (aq T q.1)-ah lf.pos (aq T p.1))*(ah lf.pos (dE T x.2)-ah lf.pos (aq T p.2))-(ah lf.pos (aq T q.2)-ah lf.pos (aq T p.2))*(ah lf.pos (dE T x.1)-ah lf.pos (aq T p.1)) ->
    ak d=m
section
variable{ts:LL}
theorem At{T:LL}(L:Lf ts T){x:List Rat×List Rat}{p q:P2 ts}{z z2:Et ts}(hd2:ak (aB p q+aB p q)≠0){t:Et T}
  (hx:dE T x.1=aq T (cV p q z z2).1+t*aq T (gB p q).1) (hy:dE T x.2=aq T (cV p q z z2).2+t*aq T (gB p q).2) {m:Int} (hm:ak t=m):CirD ts T x p q z z2 m:=by
 have g:=OL L.hm hd2 (z:=z) (z2:=z2) (t:=ah L.pos t) (x:=ah L.pos (dE T x.1)) (y:=ah L.pos (dE T x.2)) (by rw[hx];rfl) (by rw[hy];rfl);refine⟨L,fun d hd=>?_⟩;have e:ah L.pos (d+d)=ah L.pos t:=by rw[eP,hd];exact g
 rw[<- hm,<- Rs L.pos d];exact sH L.pos e
theorem UG{r:Nat}(tw:Tw ts r){p q:P2 ts}{z z2:Et ts}(h0:fg p q z z2=0)(hz:0<ak z) :
  ∀(i:Nat)(x:List Rat×List Rat),(dY p q z z2).ps[i]?=some x->CirD ts (dY p q z z2).ts x p q z z2 (if(dY p q z z2).ps.length=1 then 0 else 1-2*(i:Int)):=by
 intro i x;unfold fg kR at h0;unfold dY;split
 ·rename_i hd;rw[XK hd]at h0;unfold lG;split
  ·intro hx;simp at hx
  ·intro hx;simp at hx
 ·rename_i hd;have hd2:=ID tw hd;split
  ·intro hx;simp at hx
  ·rename_i hn;split
   ·rename_i hX;intro hx
    match i,hx with
    |0,hx =>
     have hx:(cV p q z z2).l=x:=Option.some.inj hx;subst hx;have hp:dL ts:=tw.pos;refine At (mV hp) hd2 (t:=0) ?_ ?_ ?_
     ·rw[dc,dc,d9];grind
     ·rw[dc,dc,d9];grind
     ·exact(da _ _ hp).zero
    |i+1,hx=>simp at hx
   ·rename_i hX;have hX1:0 < ak (bn p z q z2):=by omega
    have hp:=pR tw.pos hX1;have L:=rq (bn p z q z2) hp;have s1:=Aj (Gv tw.pos hX1);intro hx
    match i,hx with
    |0,hx =>
     have hx:(gp (bn p z q z2) (cV p q z z2) (fB p q) (dW (bn p z q z2) (aB p q))).l=x:=Option.some.inj hx;subst hx;refine At L hd2 (t:=bu (bn p z q z2)) ?_ ?_ s1
     ·rw[d9];exact congrArg Prod.fst (tu (bn p z q z2) (cV p q z z2) p q)
     ·rw[d9];exact congrArg Prod.snd (tu (bn p z q z2) (cV p q z z2) p q)
    |1,hx =>
     have hx:(gp (bn p z q z2) (cV p q z z2) (fB p q) (qE ((-1:Int):Rat)*dW (bn p z q z2) (aB p q))).l=x:=Option.some.inj hx;subst hx;refine At L hd2 (t:=-bu (bn p z q z2)) ?_ ?_ (by rw[yE hp,s1];rfl)
     ·rw[d9,congrArg Prod.fst (uZ (bn p z q z2) (cV p q z z2) p q)];show aL _ _-_*aL _ _=aL _ _+-_*aL _ _;grind
     ·rw[d9,congrArg Prod.snd (uZ (bn p z q z2) (cV p q z z2) p q)];show aL _ _-_*aL _ _=aL _ _+-_*aL _ _;grind
    |i+2,hx=>simp at hx
structure LinD(ts T:LL)(x:List Rat×List Rat)(p q c:P2 ts)(z:Et ts)(m:Int):Prop where
  lf:Lf ts T
  ex:∀d:Et T,ah lf.pos d=(ah lf.pos (aq T q.1)-ah lf.pos (aq T p.1))*(ah lf.pos (dE T x.1)-ah lf.pos (aq T c.1))+(ah lf.pos (aq T q.2)-ah lf.pos (aq T p.2))*(ah lf.pos (dE T x.2)-ah lf.pos (aq T c.2)) ->
    ak d=m
theorem Ao{T:LL}(L:Lf ts T){x:List Rat×List Rat}{p q c:P2 ts}{z:Et ts}(hd:ak (bh p q)≠0){t:Et T}
  (hx:dE T x.1=aq T (cR p (bH p q c*iE (bh p q)) (aR q p)).1+t*aq T (f7 p q).1) (hy:dE T x.2=aq T (cR p (bH p q c*iE (bh p q)) (aR q p)).2+t*aq T (f7 p q).2) {m:Int} (hm:ak t=m):LinD ts T x p q c z m:=by
 have g:=Lp L.hm hd (c:=c) (t:=ah L.pos t) (x:=ah L.pos (dE T x.1)) (y:=ah L.pos (dE T x.2)) (by rw[hx];rfl) (by rw[hy];rfl);refine⟨L,fun d hd=>?_⟩;have e:ah L.pos d=ah L.pos t:=by rw[hd];exact g
 rw[<- hm];exact sH L.pos e
theorem PD{r:Nat}(tw:Tw ts r){p q c:P2 ts}{z:Et ts}(h0:eZ p q=0) :
  ∀(i:Nat)(x:List Rat×List Rat),(dX p q c z).ps[i]?=some x->LinD ts (dX p q c z).ts x p q c z (if(dX p q c z).ps.length=1 then 0 else 1-2*(i:Int)):=by
 intro i x;unfold eZ at h0;unfold dX;split
 ·intro hx;simp at hx
 ·rename_i hd;split
  ·intro hx;simp at hx
  ·rename_i hn;split
   ·rename_i hX;intro hx
    match i,hx with
    |0,hx =>
     have hx:(cR p (bH p q c*iE (bh p q)) (aR q p)).l=x:=Option.some.inj hx;subst hx;have hp:dL ts:=tw.pos;refine Ao (mV hp) hd (t:=0) ?_ ?_ ?_
     ·rw[dc,dc,d9];grind
     ·rw[dc,dc,d9];grind
     ·exact(da _ _ hp).zero
    |i+1,hx=>simp at hx
   ·rename_i hX
    have hX2:ak (aU p q c z)=1:=by
     rcases(da _ _ tw.pos).cs (aU p q c z)with g |g |g
     ·exact absurd g hn
     ·exact absurd g hX
     ·exact g
    have hX1:0<ak (aU p q c z):=by omega
    have hp:=pR tw.pos hX1;have L:=rq (aU p q c z) hp;have s1:=Aj hX2;intro hx
    match i,hx with
    |0,hx =>
     have hx:(iZ (aU p q c z) p (aR q p) (fp (aU p q c z) (bh p q) (aL (aU p q c z) (bH p q c)+bu (aU p q c z)))).l=x:=Option.some.inj hx;subst hx;refine Ao L hd (t:=bu (aU p q c z)) ?_ ?_ s1
     ·rw[d9];exact congrArg Prod.fst (vi (aU p q c z) p q c)
     ·rw[d9];exact congrArg Prod.snd (vi (aU p q c z) p q c)
    |1,hx =>
     have hx:(iZ (aU p q c z) p (aR q p) (fp (aU p q c z) (bh p q) (aL (aU p q c z) (bH p q c)-bu (aU p q c z)))).l=x:=Option.some.inj hx;subst hx;refine Ao L hd (t:=-bu (aU p q c z)) ?_ ?_ (by rw[yE hp,s1];rfl)
     ·rw[d9,congrArg Prod.fst (vA (aU p q c z) p q c)];show aL _ _-_*aL _ _=aL _ _+-_*aL _ _;grind
     ·rw[d9,congrArg Prod.snd (vA (aU p q c z) p q c)];show aL _ _-_*aL _ _=aL _ _+-_*aL _ _;grind
    |i+2,hx=>simp at hx
end
def pinP(l:Li)(T:LL)(bs:List Pq)(j:Jt)(b:Int):P2 T:=if j.a=b then aX l T bs j.b j.on else aX l T bs j.a j.point
def cW(l:Li)(T:LL)(bs:List Pq)(g:Gr):Et T :=
  if g.kind=0 then qE 1
  else if g.kind=1 then jr (aR (pinP l T bs (am l g 1) (aN g 1)) (pinP l T bs (am l g 0) (aN g 0))) (aR (bR T (bs.getD (aN g 0).toNat bc) (ao l (am l g 2) (aN g 0))) (pinP l T bs (am l g 0) (aN g 0)))
  else if g.kind=2 then dK (aR (aX l T bs (am l g 1).b (am l g 1).to) (aX l T bs (am l g 1).b (am l g 1).on)) (aR (bR T (bs.getD (aN g 0).toNat bc) (aQ l (aN g 0) (am l g 1).point)) (pinP l T bs (am l g 0) (aN g 0)))
  else dK (aR (aX l T bs (am l g 1).b (am l g 1).to) (aX l T bs (am l g 1).b (am l g 1).on)) (aR (aX l T bs (am l g 1).a (am l g 1).point) (pinP l T bs (am l g 0) (aN g 0)))
def pY(l:Li)(T:LL)(bs:List Pq)(g:Gr):Et T :=
  if g.kind=0 then qE 1
  else if g.kind=1 then bn (pinP l T bs (am l g 0) (aN g 0)) (qE (bE (ao l (am l g 2) (aN g 0)) (ao l (am l g 0) (aN g 0)))) (pinP l T bs (am l g 1) (aN g 1)) (qE (bE (ao l (am l g 2) (aN g 1)) (ao l (am l g 1) (aN g 1))))
  else if g.kind=2 then aU (aX l T bs (am l g 1).b (am l g 1).on) (aX l T bs (am l g 1).b (am l g 1).to) (pinP l T bs (am l g 0) (aN g 0)) (qE (bE (aQ l (aN g 0) (am l g 1).point) (ao l (am l g 0) (aN g 0))))
  else qE (iD l (aN g 0) (am l g 1))*dK (aR (aX l T bs (am l g 1).a (am l g 1).point) (pinP l T bs (am l g 0) (aN g 0))) (aR (aX l T bs (am l g 1).a (am l g 1).point) (pinP l T bs (am l g 0) (aN g 0)))
    - qE (cq l (aN g 0) (am l g 0) (am l g 1))*qE (cq l (aN g 0) (am l g 0) (am l g 1))
theorem oJ(l:Li)(a:As)(j:Jt)(b:Int):aC l a j b=pinP l (llq a.rs) (aK a) j b:=by
 unfold aC pinP;split
 ·exact gQ l a _ _
 ·exact gQ l a _ _
theorem SY(a:As)(b:Int)(q:Rat×Rat):iR a b q=bR (llq a.rs) ((aK a).getD b.toNat bc) q:=by
 have e:(aK a).getD b.toNat bc=⟨lq (a.bs.getD b.toNat default).c,lq (a.bs.getD b.toNat default).s,lq (a.bs.getD b.toNat default).x,lq (a.bs.getD b.toNat default).y⟩:=by
  unfold aK;rw[WV,WV,W0];cases a.bs[b.toNat]? <;> rfl
 rw[e];rfl
theorem JS(l:Li)(a:As)(g:Gr):gq l a g=cW l (llq a.rs) (aK a) g:=by
 unfold gq cW bS;simp only[oJ,gQ,SY]
theorem AQ(l:Li)(a:As)(g:Gr):yM l a g=pY l (llq a.rs) (aK a) g:=by
 unfold yM pY cc bS;simp only[oJ,gQ];rfl
section
variable{ts T:LL}(L:Lf ts T)
include L
theorem Lf.pinP{l:Li}{bs bs':List Pq}{j:Jt}(b:Int)(ha:cT bs bs' ts.length j.a)(hb:cT bs bs' ts.length j.b) :
  ah L.pos (Lw.pinP l T bs' j b).1=ah L.pos (aq T (Lw.pinP l ts bs j b).1)/\ah L.pos (Lw.pinP l T bs' j b).2=ah L.pos (aq T (Lw.pinP l ts bs j b).2):=by
 unfold Lw.pinP;split
 ·exact L.pt l hb _
 ·exact L.pt l ha _
theorem Ml{l:Li}{bs bs':List Pq}{g:Gr}(h0:g.kind≠0->cT bs bs' ts.length (am l g 0).a/\cT bs bs' ts.length (am l g 0).b)(h1:g.kind≠0->cT bs bs' ts.length (am l g 1).a/\cT bs bs' ts.length (am l g 1).b)
  (hb:g.kind≠0->cT bs bs' ts.length (aN g 0)):ah L.pos (cW l T bs' g)=ah L.pos (aq T (cW l ts bs g)):=by
 unfold cW
 by_cases k0:g.kind=0
 ·rw[XK k0,XK k0,L.q]
 ·rw[XJ k0,XJ k0];have p0:=L.pinP (l:=l) (aN g 0) (h0 k0).1 (h0 k0).2;have p1:=L.pinP (l:=l) (aN g 1) (h1 k0).1 (h1 k0).2
  have own:∀m,ah L.pos (bR T (bs'.getD (aN g 0).toNat bc) m).1=ah L.pos (aq T (bR ts (bs.getD (aN g 0).toNat bc) m).1)/\ah L.pos (bR T (bs'.getD (aN g 0).toNat bc) m).2=ah L.pos (aq T (bR ts (bs.getD (aN g 0).toNat bc) m).2):=by
   intro m;rw[(hb k0).1];exact L.at (hb k0).2 m
  have qa:=fun pt=>L.pt l (h1 k0).1 pt
  have qb:=fun pt=>L.pt l (h1 k0).2 pt
  by_cases k1:g.kind=1
  ·rw[XK k1,XK k1];unfold jr crsE aR;dsimp only;simp only[L.sub,L.mul,bJ,bB];rw[p0.1,p0.2,p1.1,p1.2,(own _).1,(own _).2]
  ·rw[XJ k1,XJ k1]
   by_cases k2:g.kind=2
   ·rw[XK k2,XK k2];unfold dK dotE aR;dsimp only;simp only[L.sub,L.mul,L.add,bJ,bB,eP];rw[p0.1,p0.2,(own _).1,(own _).2,(qb _).1,(qb _).2,(qb _).1,(qb _).2]
   ·rw[XJ k2,XJ k2];unfold dK dotE aR;dsimp only;simp only[L.sub,L.mul,L.add,bJ,bB,eP];rw[p0.1,p0.2,(qa _).1,(qa _).2,(qb _).1,(qb _).2,(qb _).1,(qb _).2]
theorem Ae{l:Li}{bs bs':List Pq}{g:Gr}(p0:g.kind≠0->ah L.pos (Lw.pinP l T bs' (am l g 0) (aN g 0)).1=ah L.pos (aq T (Lw.pinP l ts bs (am l g 0) (aN g 0)).1)/\ah L.pos (Lw.pinP l T bs' (am l g 0) (aN g 0)).2=ah L.pos (aq T (Lw.pinP l ts bs (am l g 0) (aN g 0)).2))
  (p1:g.kind=1->ah L.pos (Lw.pinP l T bs' (am l g 1) (aN g 1)).1=ah L.pos (aq T (Lw.pinP l ts bs (am l g 1) (aN g 1)).1)/\ah L.pos (Lw.pinP l T bs' (am l g 1) (aN g 1)).2=ah L.pos (aq T (Lw.pinP l ts bs (am l g 1) (aN g 1)).2))
  (hb:g.kind=2->∀pt,ah L.pos (aX l T bs' (am l g 1).b pt).1=ah L.pos (aq T (aX l ts bs (am l g 1).b pt).1)/\ah L.pos (aX l T bs' (am l g 1).b pt).2=ah L.pos (aq T (aX l ts bs (am l g 1).b pt).2))
  (ha:g.kind≠0->g.kind≠1->g.kind≠2->∀pt,ah L.pos (aX l T bs' (am l g 1).a pt).1=ah L.pos (aq T (aX l ts bs (am l g 1).a pt).1)/\ah L.pos (aX l T bs' (am l g 1).a pt).2=ah L.pos (aq T (aX l ts bs (am l g 1).a pt).2)) :
  ah L.pos (pY l T bs' g)=ah L.pos (aq T (pY l ts bs g)):=by
 unfold pY
 by_cases k0:g.kind=0
 ·rw[XK k0,XK k0,L.q]
 ·rw[XJ k0,XJ k0];have p0:=p0 k0
  by_cases k1:g.kind=1
  ·rw[XK k1,XK k1];have p1:=p1 k1;unfold bn aB dK dotE aR;dsimp only;simp only[L.sub,L.mul,L.add,L.q,bJ,bB,eP];rw[p0.1,p0.2,p1.1,p1.2]
  ·rw[XJ k1,XJ k1]
   by_cases k2:g.kind=2
   ·rw[XK k2,XK k2];have qb:=hb k2;unfold aU bh ip dK dotE jr crsE aR;dsimp only;simp only[L.sub,L.mul,L.add,L.q,bJ,bB,eP];rw[p0.1,p0.2,(qb _).1,(qb _).2,(qb _).1,(qb _).2]
   ·rw[XJ k2,XJ k2];have qa:=ha k0 k1 k2;unfold dK dotE aR;dsimp only;simp only[L.sub,L.mul,L.add,L.q,bJ,bB,eP];rw[p0.1,p0.2,(qa _).1,(qa _).2]
end
end Go.Lw
namespace Go.Lw
open Lean.Grind (CommRing)
section
variable{R:Type}[CommRing R]
theorem KR{C S u v:R}(h:C*C+S*S=1):(C*u-S*v)*(C*u-S*v)+(S*u+C*v)*(S*u+C*v)=u*u+v*v:=by
 have e:(C*u-S*v)*(C*u-S*v)+(S*u+C*v)*(S*u+C*v)=(C*C+S*S)*(u*u+v*v):=by clear h;grind
 rw[e,h];grind
end
section
variable{T:LL}(hp:dL T){p:Pq}
include hp
theorem S8(hc:CH T p):ah hp (dE T p.c)*ah hp (dE T p.c)+ah hp (dE T p.s)*ah hp (dE T p.s)=1:=by
 have h9:=(eU hp).2 hc;rw[bJ,eP,bB,bB,Fh]at h9;grind
theorem LK(m n:Rat×Rat):ah hp (bR T p n).1-ah hp (bR T p m).1=ah hp (dE T p.c)*ah hp (qE (n.1-m.1))-ah hp (dE T p.s)*ah hp (qE (n.2-m.2)) /\
  ah hp (bR T p n).2-ah hp (bR T p m).2=ah hp (dE T p.s)*ah hp (qE (n.1-m.1))+ah hp (dE T p.c)*ah hp (qE (n.2-m.2)):=by
 unfold bR;dsimp only;rw[mc,mc];simp only[eP,bJ,bB];constructor <;> grind
theorem Tt(hc:CH T p)(m n:Rat×Rat):(ah hp (bR T p n).1-ah hp (bR T p m).1)*(ah hp (bR T p n).1-ah hp (bR T p m).1)+(ah hp (bR T p n).2-ah hp (bR T p m).2)*(ah hp (bR T p n).2-ah hp (bR T p m).2)=ah hp (qE (bE n m)):=by
 obtain⟨e1,e2⟩:=LK hp (p:=p) m n;rw[e1,e2,KR (S8 hp hc)];unfold bE bW cg;dsimp only;rw[no,jk,jk,eP,bB,bB]
end
section
variable{l:Li}{T:LL}{bs:List Pq}{g:Gr}
theorem Jx(h:g.kind=1):cW l T bs g=jr (aR (pinP l T bs (am l g 1) (aN g 1)) (pinP l T bs (am l g 0) (aN g 0))) (aR (bR T (bs.getD (aN g 0).toNat bc) (ao l (am l g 2) (aN g 0))) (pinP l T bs (am l g 0) (aN g 0))):=by
 unfold cW;rw[XJ oz,XK h]
theorem Qa(h:g.kind=2):cW l T bs g=dK (aR (aX l T bs (am l g 1).b (am l g 1).to) (aX l T bs (am l g 1).b (am l g 1).on)) (aR (bR T (bs.getD (aN g 0).toNat bc) (aQ l (aN g 0) (am l g 1).point)) (pinP l T bs (am l g 0) (aN g 0))):=by
 unfold cW;rw[XJ oz,XJ oz,XK h]
theorem UA(h:g.kind=3):cW l T bs g=dK (aR (aX l T bs (am l g 1).b (am l g 1).to) (aX l T bs (am l g 1).b (am l g 1).on)) (aR (aX l T bs (am l g 1).a (am l g 1).point) (pinP l T bs (am l g 0) (aN g 0))):=by
 unfold cW;rw[XJ oz,XJ oz,XJ oz]
end
section
variable{l:Li}{T:LL}(hp:dL T){bs:List Pq}
include hp
end
end Go.Lw
namespace Go.Lw
open Go.Proofs
theorem Hl{P:Program}{f:FuncId}{sz:Nat}{r:AV}{H H':Hp}(h:∀(a:Option Addr)(cap:Nat),Con P f [.v (.slice a 0 cap)] H r H'):Con P f [.lst sz []] H r H' :=
 ⟨(h none 0).ok,fun ext m w vs he hr hn hv=>by
  have hn1:vs.size=1:=hn;have h0:=hv 0 vs[0] (.lst sz []) (by simp[hn1]) rfl
  have hy:∃a cap,vs[0]=.slice a 0 cap:=by
   generalize vs[0]=y at h0;cases h0 with
   |lst0 a cap=>exact⟨_,_,rfl⟩
   |lst u hb hc hl hs h1 hu hrr=>exact⟨_,_,rfl⟩
  obtain⟨a,cap,hy⟩:=hy;refine(h a cap).ret ext m w vs he hr hn (fun j v x hv2 hx=>?_)
  match j,hx with
  |0,hx =>
   cases hx;have:v=.slice a 0 cap:=by rw[<- hy];have:=Array.getElem?_eq_some_iff.1 hv2;exact this.2.symm
   subst this;exact .v _⟩
theorem UW(e:AV)(es:List AV)(hc:∀x∈e::es,x.cells.length=1)(hl:(e::es).length<=1000):Con prog 297 [.lst 1 (e::es)] [] (.ms 901 1 0 (e::es).length) [(901,some (.row 1 (e::es)))]:=by
 refine gF func297 (fun k z h=>by cases h) ?_;refine gs (FV (.tmp rfl) (by kernel_rfl) rfl) ?_;refine gC (fun t4=>?_) (fun t4=>?_) (st1:=(2,0));cases t4;refine gs (lB T39 rfl T3 rfl rfl rfl) ?_;refine gs (cO (.tmp rfl) rfl rfl (.tmp rfl) T39 rfl T3 rfl rfl (by simp only[];omega) rfl rfl) ?_ (77777,0);refine gW (Wk.of (sl:=[(2,some (.ms 7 1 0 (e::es).length))]) (hp:=[(7,some (.row 1 (e::es)))]) (.cons rfl (Sub.of (congrArg (AV.ms 7 1 0) (Nat.zero_add _))) .nil) (.k .nil)) ?_;refine gR ?_;exact az.own1 rfl rfl rfl
theorem Pv(a:Option Addr)(cap:Nat):Con prog 297 [.v (.slice a 0 cap)] [] (.ms 901 1 0 0) [(901,some (.row 1 []))]:=by
 refine gF func297 (fun k z h=>by cases h) ?_;refine gs (I8 (.tmp rfl) (by kernel_rfl) rfl) ?_;refine gC (fun t4=>?_) (fun t4=>?_) (st1:=(2,0)) (st2:=(77777,0))
 ·refine gW ((Wk.virt 901 1 rfl).trans<|Wk.o (sl:=[]) (hp:=[(901,some (.row 1 []))])) ?_;refine gR ?_;exact(az.keep (bm rfl)).sub (Sub.nM _ _ _)
 refine gW (Wk.of (sl:=[(0,some (.lst 1 []))]) (hp:=[]) (.cons rfl (Sub.nil _ _ _) .nil) .nil) ?_;refine gs (lB T39 rfl T3 rfl rfl rfl) ?_;refine gs (cO (.tmp rfl) rfl rfl (.tmp rfl) T39 rfl T3 rfl rfl (by simp) rfl rfl) ?_ (77777,0);refine gW (Wk.o (sl:=[(2,some (.ms 7 1 0 0))]) (hp:=[(7,some (.row 1 []))])) ?_;refine gR ?_;exact az.own1 rfl rfl rfl
theorem To(e:AV)(es:List AV)(hc:∀x∈e::es,x.cells.length=4)(hl:(e::es).length<=1000):Con prog 299 [.lst 4 (e::es)] [] (.ms 900 4 0 (e::es).length) [(900,some (.row 4 (e::es)))]:=by
 refine gF func299 (fun k z h=>by cases h) ?_;refine gs (FV (.tmp rfl) (by kernel_rfl) rfl) ?_;refine gC (fun t4=>?_) (fun t4=>?_) (st1:=(2,0));cases t4;refine gs (lB T38 rfl T69 rfl rfl rfl) ?_;refine gs (cO (.tmp rfl) rfl rfl (.tmp rfl) T38 rfl T69 rfl rfl (by simp only[];omega) rfl rfl) ?_ (77777,0);refine gW (Wk.of (sl:=[(2,some (.ms 7 4 0 (e::es).length))]) (hp:=[(7,some (.row 4 (e::es)))]) (.cons rfl (Sub.of (congrArg (AV.ms 7 4 0) (Nat.zero_add _))) .nil) (.k .nil)) ?_;refine gR ?_;exact az.own1 rfl rfl rfl
theorem QN(a:Option Addr)(cap:Nat):Con prog 299 [.v (.slice a 0 cap)] [] (.ms 900 4 0 0) [(900,some (.row 4 []))]:=by
 refine gF func299 (fun k z h=>by cases h) ?_;refine gs (I8 (.tmp rfl) (by kernel_rfl) rfl) ?_;refine gC (fun t4=>?_) (fun t4=>?_) (st1:=(2,0)) (st2:=(77777,0))
 ·refine gW ((Wk.virt 900 4 rfl).trans<|Wk.o (sl:=[]) (hp:=[(900,some (.row 4 []))])) ?_;refine gR ?_;exact(az.keep (bm rfl)).sub (Sub.nM _ _ _)
 refine gW (Wk.of (sl:=[(0,some (.lst 4 []))]) (hp:=[]) (.cons rfl (Sub.nil _ _ _) .nil) .nil) ?_;refine gs (lB T38 rfl T69 rfl rfl rfl) ?_;refine gs (cO (.tmp rfl) rfl rfl (.tmp rfl) T38 rfl T69 rfl rfl (by simp) rfl rfl) ?_ (77777,0);refine gW (Wk.o (sl:=[(2,some (.ms 7 4 0 0))]) (hp:=[(7,some (.row 4 []))])) ?_;refine gR ?_;exact az.own1 rfl rfl rfl
theorem CS(es:List AV)(hc:∀x∈es,x.cells.length=1)(hl:es.length<=1000):Con prog 297 [.lst 1 es] [] (.ms 901 1 0 es.length) [(901,some (.row 1 es))]:=by
 cases es with
 |nil=>exact Hl Pv
 |cons e es=>exact UW e es hc hl
theorem NS(es:List AV)(hc:∀x∈es,x.cells.length=4)(hl:es.length<=1000):Con prog 299 [.lst 4 es] [] (.ms 900 4 0 es.length) [(900,some (.row 4 es))]:=by
 cases es with
 |nil=>exact Hl QN
 |cons e es=>exact To e es hc hl
theorem NG(es:List AV)(hc:∀x∈es,x.cells.length=1)(hl:es.length<=1000):FP 297 [.lst 1 es] (.lst 1 es):=by
 have h:=Con.freeze oz (CS es hc hl)
 rwa [XG,Xg]at h
theorem EF(ms:List Int):∀x∈ms.map i64,x.cells.length=1:=fun x hx=>by obtain⟨m,_,rfl⟩:=List.mem_map.1 hx;rfl
theorem O3(bs:List Pq):∀x∈bs.map Pq.av,x.cells.length=4:=fun x hx=>by obtain⟨m,_,rfl⟩:=List.mem_map.1 hx;rfl
theorem tc{n e:Nat}{x:List Rat}(h:Nm n e x)(he:e<=100000000000):FP 298 [nA x] (nA x):=by
 have hlen:=h.nl.len5 h.five;have hqs:∀q∈x,Qs q:=fun q hq=>h.cb.qs oz hq
 refine aj func298 ?_;refine gl ?_;refine gW (Wk.virt 901 3 rfl) ?_;refine aZ [6,7] [] (fun(j:Nat)=>[(3,some (.ms 901 3 0 j)),(8,some (i64 j))]) (fun j=>[(901,some (.row 3 ((x.take j).map qA)))]) (fun j=>j<=x.length) (fun j=>x.length-j) 0 (W7 _) ?_ (h1:=(.cons rfl (Sub.nM _ _ _) (.k .nil)));rintro j hj K1 J1;refine gC (fun t9=>?_) (fun t9=>?_) (st2:=(7,0))
 ·have hjn:=a6 t9;obtain⟨q,hq⟩:=ax hjn;have hadd:=oO (rt q) (rt 0) (hqs q (WU hq)).ok Qs.zero.ok;rw[wt,co]at hadd;refine gi (aI hq) ?_;refine gc (Con.sA (.cons (.refl _) (.cons j7 .nil)) hadd) ?_;refine gs (cO (.tmp rfl) rfl (by rw[WW,Xh];omega) (.tmp rfl) T67 rfl T45 rfl rfl (by simp only[W9,Xi];omega) rfl rfl) ?_ (6,0);refine gW (Wk.of (sl:=[(6,some (nA x)),(7,some (i64 x.length)),(8,some (i64 j)),(3,some (.ms 17 3 0 (j+1)))]) (hp:=[(17,some (.row 3 ((x.take (j+1)).map qA)))]) a8 (.cons rfl (BlkSub.of (by rw[eA hq,Xl];rfl)) .nil)) ?_ (6,0);refine gW (Wk.rk (k:=17) (d:=901) rfl rfl) ?_;refine ga aO ?_;exact aP J1 (j+1) hjn
 have hjn:=bi hj t9;subst hjn;refine gW ((Wk.freeze (k:=901) rfl).trans<|Wk.of (sl:=[(3,some (nA x))]) (hp:=[]) (.cons rfl (Sub.of (by rw[bV (by simp)];simp[nA])) .nil) .nil) ?_;refine af ?_;rfl
theorem Jz{a:Aq}{n e:Nat}(h5:n<=5)(ht:∀x∈a.ts,Nm n e x)(hb:∀p∈a.bs,Pq.ok n e p)(he:e<=100000000000)(l1:a.ts.length<=100)(l2:a.bs.length<=100)(l3:a.ms.length<=100):FP 199 [a.av] a.av:=by
 refine aj func199 ?_;refine gc (NG _ (EF _) (by rw[WW];omega)) ?_;refine gl ?_;refine gW (Wk.virt 900 1 rfl) ?_;refine aZ [1,2,3,14,15] [1,2] (fun(i:Nat)=>[(16,some (i64 i))]) (fun i=>[(3,some (.box [.ms 900 1 0 i,nS,.lst 1 (a.ms.map i64)])),(900,some (.row 1 ((a.ts.take i).map nA)))]) (fun i=>i<=a.ts.length) (fun i=>a.ts.length-i) 0 (W7 _) ?_ (h2:=(.cons rfl (BlkSub.bL (.cons (.nM _ _ _) (.cons (.refl _) (.cons (.refl _) .nil))) rfl) (.k .nil)));rintro i hi K1 J1;refine gC (fun t17=>?_) (fun t17=>?_) (st2:=(7,0))
 ·have hin:=a6 t17;obtain ⟨d,hd⟩:=ax hin;refine gi (aI hd) ?_;refine gc (tc (ht d (WU hd)) he) ?_;refine gs (cO (.tmp rfl) rfl (by rw [WW,Xh]; omega) (.tmp rfl) T35 rfl T67 rfl rfl (by simp only [W9,Xi]; omega) rfl rfl) ?_;refine gD ?_ (6,0);refine gW (Wk.of (sl:=[(1,some (.ptr 1 0)),(2,some (.ptr 2 0)),(3,some (.ptr 3 0)),(14,some (.lst 1 (a.ts.map nA))),(15,some (i64 a.ts.length)),(16,some (i64 i))]) (hp:=[(1,some (.box a.cs)),(2,some (.box [nS,nS,nS])),(3,some (.box [.ms 26 1 0 (i + 1),nS,.lst 1 (a.ms.map i64)])),(26,some (.row 1 ((a.ts.take (i + 1)).map nA)))]) a8 (.k (.k (.k (.cons rfl (BlkSub.of (by rw [eA hd,Xl]; rfl)) .nil))))) ?_ (6,0)
  refine gW (Wk.rk (k:=26) (d:=900) rfl rfl) ?_;refine ga aO ?_;exact aP J1 (i+1) hin
 have hin:=bi hi t17;subst hin;refine gW ((Wk.freeze (k:=900) rfl).trans<|Wk.of (sl:=[(1,some (.ptr 1 0)),(2,some (.ptr 2 0)),(3,some (.ptr 3 0))]) (hp:=[(1,some (.box a.cs)),(2,some (.box [nS,nS,nS])),(3,some (.box [.lst 1 (a.ts.map nA),nS,.lst 1 (a.ms.map i64)]))]) a8 (.k (.k (.cons rfl (BlkSub.bL (.cons (Sub.of (by rw[bV (by simp)];simp)) (.cons (.refl _) (.cons (.refl _) .nil))) rfl) .nil)))) ?_;refine gl ?_;refine gW (Wk.virt 902 4 rfl) ?_;refine aZ [1,2,3,31,32] [1,2] (fun(i:Nat)=>[(33,some (i64 i))]) (fun i=>[(3,some (.box [.lst 1 (a.ts.map nA),.ms 902 4 0 i,.lst 1 (a.ms.map i64)])),(902,some (.row 4 ((a.bs.take i).map Pq.av)))]) (fun i=>i<=a.bs.length) (fun i=>a.bs.length-i) 0 (W7 _) ?_ (h2:=(.cons rfl (BlkSub.bL (.cons (.refl _) (.cons (.nM _ _ _) (.cons (.refl _) .nil))) rfl) (.k .nil)));rintro i hi K2 J2;refine gC (fun t34=>?_) (fun t34=>?_) (st2:=(12,0))
 ·have hin:=a6 t34;obtain ⟨p,hp⟩:=ax hin;have ok:=hb p (WU hp);refine gi (aI hp) ?_;refine gc (tc ok.c he) ?_;refine gc (tc ok.s he) ?_;refine gc (tc ok.x he) ?_;refine gc (tc ok.y he) ?_;refine gs (cO (.tmp rfl) rfl (by rw [WW,Xh]; omega) (.tmp rfl) T38 rfl T69 rfl rfl (by simp only [W9,Xi]; omega) rfl rfl) ?_;refine gD ?_ (11,0);refine gW (Wk.of (sl:=[(1,some (.ptr 1 0)),(2,some (.ptr 2 0)),(3,some (.ptr 3 0)),(31,some (.lst 4 (a.bs.map Pq.av))),(32,some (i64 a.bs.length)),(33,some (i64 i))]) (hp:=[(1,some (.box a.cs)),(2,some (.box [nS,nS,nS])),(3,some (.box [.lst 1 (a.ts.map nA),.ms 53 4 0 (i + 1),.lst 1 (a.ms.map i64)])),(53,some (.row 4 ((a.bs.take (i + 1)).map Pq.av)))]) a8 (.k (.k (.k (.cons rfl (BlkSub.of (by rw [eA hp,Xl]; rfl)) .nil))))) ?_ (11,0)
  refine gW (Wk.rk (k:=53) (d:=902) rfl rfl) ?_;refine ga aO ?_;exact aP J2 (i+1) hin
 have hin:=bi hi t34;subst hin;refine gW ((Wk.freeze (k:=902) rfl).trans<|Wk.of (sl:=[(2,some (.ptr 2 0)),(3,some (.ptr 3 0))]) (hp:=[(2,some (.box [nS,nS,nS])),(3,some (.box a.cs))]) a8 (.k (.cons rfl (BlkSub.bL (.cons (.refl _) (.cons (Sub.of (by rw[bV (by simp)];simp)) (.cons (.refl _) .nil))) rfl) .nil))) ?_;refine af ?_;rfl
theorem Nf{a:Aq}{g:Gr}{s:Sv}(hb:∀b∈g.bo,0<=b/\b<a.bs.length)(hl:s.ps.length=g.bo.length)(l1:a.bs.length<=100)(l2:a.ms.length<=100)(l3:g.bo.length<=100):FP 201 [a.av,g.av,s.av] (a.nxt g s).av:=by
 refine aj func201 ?_;refine gt (aE (NS _ (O3 _) (by rw[WW];omega)) (cC rfl) aH rfl rfl) ?_;refine gt (aE (CS _ (EF _) (by rw[WW];omega)) (cC rfl) aH rfl rfl) ?_;refine gs (cO (.tmp rfl) rfl rfl (.tmp rfl) T39 rfl T3 rfl rfl (by simp only[WW,W9,Xi];omega) rfl rfl) ?_;refine gD ?_ (2,0);refine gW ((Wk.freeze (k:=21) rfl).trans<|Wk.of (sl:=[(3,some (.ptr 3 0)),(4,some (.ptr 4 0)),(5,some (.ptr 5 0)),(6,some (.ptr 6 0)),(7,some (.ptr 7 0))]) (hp:=[(3,some (.box a.cs)),(4,some (.box g.av.cells)),(5,some (.box s.av.cells)),(6,some (.box [nS,nS,nS])),(7,some (.box [.lst 1 (s.ts.map nA),.ms 900 4 0 a.bs.length,.lst 1 ((a.ms++[s.mode]).map i64)])),(900,some (.row 4 ((a5 a.bs (g.bo.take 0) (s.ps.take 0)).map Pq.av)))]) a8 (.k (.k (.k (.k (.cons rfl (BlkSub.bL (.cons (.refl _) (.cons (Sub.of (congrArg (AV.ms 900 4 0) (WW _))) (.cons (Sub.of (by rw[bV (by simp)];simp)) .nil))) rfl) (.k .nil))))))) ?_
 refine gl ?_;refine aZ [3,4,5,6,7,24,25] [3,4,5,6,7] (fun(i:Nat)=>[(26,some (i64 i))]) (fun i=>[(900,some (.row 4 ((a5 a.bs (g.bo.take i) (s.ps.take i)).map Pq.av)))]) (fun i=>i<=g.bo.length) (fun i=>g.bo.length-i) 0 (W7 _) ?_;rintro i hi K1 J1;refine gC (fun t27=>?_) (fun t27=>?_) (st2:=(7,0))
 ·have hin:=a6 t27;obtain⟨b,hbi⟩:=ax hin;obtain⟨p,hp⟩:=ax (l:=s.ps) (i:=i) oz;obtain⟨hb0,hb1⟩:=hb b (WU hbi);have hpl:=uw a.bs (g.bo.take i) (s.ps.take i);obtain⟨o,ho⟩:=ax (l:=a5 a.bs (g.bo.take i) (s.ps.take i)) (i:=b.toNat) oz;refine gi (aI hbi) ?_;refine gi (aI hp) ?_;refine gs (mh (.tmp rfl) (.tmp rfl) T38 rfl T69 rfl oz oz rfl) ?_;refine gs (dP (.tmp rfl) rfl (by rw[Nat.zero_add,W0,ho];rfl) rfl (.tmp rfl) rfl rfl T69 rfl rfl) ?_;refine gD ?_;refine ga aO ?_;exact aP J1 (i+1) hin (hw:=Wk.of a8 (.cons rfl (BlkSub.of (by rw[KE hbi hp,XF,Nat.zero_add];rfl)) (.k (.k (.k (.k (.k .nil)))))))
 have hin:=bi hi t27;subst hin;refine gW ((Wk.freeze (k:=900) rfl).trans<|Wk.of (sl:=[(6,some (.ptr 6 0)),(7,some (.ptr 7 0))]) (hp:=[(6,some (.box [nS,nS,nS])),(7,some (.box (a.nxt g s).cs))]) a8 (.k (.cons rfl (BlkSub.bL (.cons (.refl _) (.cons (Sub.of (by rw[bV (by rw[WW,uw])];rw[Xg,Xb oz];rfl)) (.cons (.refl _) .nil))) rfl) .nil))) ?_;refine af ?_;rfl
abbrev fy(l:Li)(xs:List Tn)(G:List Gr)(fo:FuncId)(caps:List AV)(sg:Bool)(o:AV):List AV:=l.av.cells++[.lst 4 (xs.map Tn.av),.lst 4 (G.map Gr.av),.cl fo [] caps,bl sg,o]
abbrev ff(l:Li)(xs:List Tn)(G:List Gr)(fo:FuncId)(caps:List AV)(sg:Bool)(k:Nat)(es:List AV):Hp :=
  [(1000,some (.box (fy l xs G fo caps sg (.ms k 3 0 es.length)))),(k,some (.row 3 es))]
theorem vE{k k0:Nat}{x y:Option Blk}{z:Blk}(h0:1000<=k0)(h:lk [(1000,x),(k0,y)] k=some z):1000<=k:=by
 rw[aT]at h;split at h
 ·omega
 ·rw[aT]at h;split at h
  ·omega
  ·cases h
theorem JD{l:Li}{xs:List Tn}{G:List Gr}{fo:FuncId}{caps:List AV}{sg:Bool}{es:List AV}{g:Gr}(hd:g.kind=0->0<=g.driver/\g.driver<xs.length)(hl:xs.length<=100) :
  Con prog 200 [.ptr 1000 0,g.av] (ff l xs G fo caps sg 1001 es) (bZ g xs).av (ff l xs G fo caps sg 1001 es):=by
 refine gF func200 (fun k z h=>vE oz h) ?_;refine gC (fun t7=>?_) (fun t7=>?_)
 ·have hk : g.kind ≠ 0 := by simpa [aa] using t7
  refine gR ?_;exact(az.keep (l7 rfl rfl)).sub (by unfold bZ;rw[XJ hk];exact Sub.agg (.cons (.refl _) (.cons (Sub.nil _ _ _) (.cons (Sub.nil _ _ _) (.cons (.refl _) .nil)))) rfl)
 have hk:g.kind=0:=by simpa[aa]using t7
 obtain⟨h0,h1⟩:=hd hk;obtain⟨x,hx⟩:=ax (l:=xs) (i:=g.driver.toNat) oz;refine gi (f0 (n:=g.driver.toNat) oz hx) ?_;refine gD ?_;refine gR ?_;exact(az.keep (l7 rfl rfl)).sub (by unfold bZ;rw[XK hk,au hx];exact .refl _)
theorem PP:kM (.agg [nS,nS,nS,nS]) bc.av:=by
 refine⟨rfl,?_⟩;intro j x y hx hy
 match j,hx,hy with
 |0,hx,hy=>cases hx;cases hy;exact⟨rfl,.nil _ _ _⟩
 |1,hx,hy=>cases hx;cases hy;exact⟨rfl,.nil _ _ _⟩
 |2,hx,hy=>cases hx;cases hy;exact⟨rfl,.nil _ _ _⟩
 |3,hx,hy=>cases hx;cases hy;exact⟨rfl,.nil _ _ _⟩
theorem Py(n:Nat):BlkSub (.row 4 (List.replicate n (.agg [nS,nS,nS,nS]))) (.row 4 ((List.replicate n bc).map Pq.av)):=by
 refine .row (by simp) ?_;intro i e e' he he';rw[XB,Xq]at he';rw[Xq]at he;split at he
 ·rename_i h;rw[XK h]at he';cases he;cases he'
  exact PP
 ·cases he
theorem Ow:ky.av=.agg [nA (sh 0 (((1:Int):Rat):Rat)),nA [],nA [],nA []]:=by
 have h:sh 0 (((1:Int):Rat):Rat)=[1]:=by decide +kernel
 rw[h];rfl
theorem PS{l:Li}{xs:List Tn}{G:List Gr}{fo:FuncId}{caps:List AV}{sg:Bool}{es:List AV}(h0:0<l.bo.length)(hl:l.bo.length<=100) :
  Con prog 101 [.ptr 1000 0] (ff l xs G fo caps sg 1001 es) (eG l).av (ff l xs G fo caps sg 1001 es):=by
 refine gF func101 (fun k z h=>vE oz h) ?_;refine gl ?_;refine gs (gX (.tmp rfl) T38 rfl T69 rfl rfl oz (by dsimp only;omega) rfl) ?_ (2,0);refine gW (Wk.of (sl:=[(2,some (.ptr 2 0)),(3,some (.ptr 3 0))]) (hp:=[(2,some (.box [nS,nS,nS])),(3,some (.box [nS,.ms 10 4 0 l.bo.length,nS])),(10,some (.row 4 ((List.replicate l.bo.length bc).map Pq.av))),(1000,some (.box (fy l xs G fo caps sg (.ms 1001 3 0 es.length)))),(1001,some (.row 3 es))]) a8 (.k (.k (.cons rfl (Py _) (.k (.k .nil)))))) ?_;refine gc (kv 1 oz) ?_;refine gc (mg (q:=((1:Int):Rat)) (Qb.one.qs oz)) ?_;refine gs (b8 (n:=0) (.tmp rfl) (.const _) T38 rfl T69 rfl oz oz rfl) ?_ (2,7);refine gs (Cq (e:=bc.av) (e':=.agg [nA (sh 0 (((1:Int):Rat):Rat)),nA [],nA [],nA []]) (.tmp rfl) rfl (by rw[W0,Xq,XK h0];rfl) (.tmp rfl) rfl rfl T67 rfl rfl rfl) ?_;refine gD ?_ (3,0);refine gW ((Wk.freeze (k:=10) rfl).trans<|Wk.of (sl:=[(2,some (.ptr 2 0)),(3,some (.ptr 3 0))]) (hp:=[(2,some (.box [nS,nS,nS])),(3,some (.box [nS,.lst 4 ((eG l).bs.map Pq.av),nS])),(1000,some (.box (fy l xs G fo caps sg (.ms 1001 3 0 es.length)))),(1001,some (.row 3 es))]) a8 (.k (.cons rfl (BlkSub.bL (.cons (.refl _) (.cons (Sub.of (by rw[bV (by simp)];unfold eG;rw[XF,Ow])) (.cons (.refl _) .nil))) rfl) (.k (.k .nil))))) ?_
 refine gR ?_;exact(az.keep (l7 rfl rfl)).sub (Sub.agg (.cons (Sub.nil _ _ _) (.cons (.refl _) (.cons (Sub.nil _ _ _) .nil))) rfl)
theorem L9(k m:Int):FP 198 [i64 k,i64 m] (bl true):=by
 refine aj func198 ?_;refine af ?_;rfl
theorem Mx{modes:List Int}{k:Nat}(hk:k<modes.length)(hl:modes.length<=100)(m:Int):FP 223 [i64 k,i64 m,.iptr [.lst 1 (modes.map i64)]] (bl (decide (m=modes.getD k 0))):=by
 obtain⟨x,hx⟩:=ax hk;refine aj func223 ?_;refine gi (aI hx) ?_;refine gR ?_;exact dZ (Sub.of (by rw[au hx,oh];rfl))
def sW(l:Li)(xs:List Tn):Nat:=if splitE l≠0 then splitE l else if xs.length≠l.dv.length then 10 else eL (xs.map Tn.err)
def cI(l:Li)(xs:List Tn):Nat:=if aG l≠0 then aG l else sW l xs
def tK(e:Nat)(l:Li)(xs:List Tn):Hp:=if e=0 then[(900,some (.box (fy l xs (splitG l) 198 [] false (nS))))]else[]
theorem wj{e:Nat}(h:e≠0){l:Li}{xs:List Tn}:tK e l xs=[]:=XJ h
theorem PK{l:Li}{xs:List Tn}{e:Nat}(he:(if aG l=0 then splitE l else aG l)=e)(h:e≠0):cI l xs=e:=by
 unfold cI sW
 by_cases h1:aG l=0
 ·rw[XK h1]at he;rw[XJ oz,XK oz,he]
 ·rw[XJ h1]at he;rw[XK h1,he]
theorem F4{l:Li}{xs:List Tn}(h:aG l=0)(hs:splitE l=0):cI l xs=if xs.length≠l.dv.length then 10 else eL (xs.map Tn.err):=by
 unfold cI sW;rw[XJ oz,XJ oz]
theorem Dy(l:Li)(hl:l.ok)(xs:List Tn)(hx:∀x∈xs,x.t.ok)(hn:xs.length<=100) :
  Con prog 99 [l.av,.lst 4 (xs.map Tn.av)] [] (.tup [re (cI l xs),bq (cI l xs)]) (tK (cI l xs) l xs):=by
 have hld:=hl.ld;refine gF func99 (fun k z h=>by cases h) ?_;refine gc (xM l hl) ?_;refine gC (fun t17=>?_) (fun t17=>?_)
 ·have h1:=dl t17;refine gR ?_;rw[PK rfl h1,k8 h1,wj h1];exact kQ rfl
 have h1:=cZ t17;obtain⟨hli,hsp⟩:=Dc h1;rw[show(if aG l=0 then splitG l else[])=splitG l from XK hli];refine gl ?_;refine gl ?_;refine gC (fun t24=>?_) (fun t24=>?_)
 ·have h2:=AE t24;have he:cI l xs = 10:=by rw [F4 hli hsp,XK h2]
  refine gR ?_;rw[he,k8 (by decide),wj (by decide)];exact kQ rfl
 have h2:=zw t24;have he0:cI l xs=eL (xs.map Tn.err):=by rw[F4 hli hsp,XJ oz]
 refine gl ?_;refine aZ [1,2,6,26,27] [2] (fun(i:Nat)=>[(28,some (i64 i))]) (fun _=>[]) (fun i=>i<=xs.length/\∀y∈xs.take i,y.err=0) (fun i=>xs.length-i) 0 ⟨W7 _,fun y hy=>by simp at hy⟩ ?_;rintro i ⟨hi,hz⟩ K1 J1;refine gC (fun t29=>?_) (fun t29=>?_) (st2:=(13,0))
 ·have hin:=a6 t29;obtain⟨x,hxi⟩:=ax hin;refine gi (aI hxi) ?_;refine gc (xz x (hx x (WU hxi))) ?_;refine gC (fun t35=>?_) (fun t35=>?_)
  ·have h3:=dl t35;have he:cI l xs = x.err:=by rw [he0]; exact FC hxi hz h3
   refine gR ?_;rw[he,k8 h3,wj h3];exact kQ rfl
  have h3:=cZ t35;refine ga aO ?_;exact aP J1 (i+1) ⟨hin,fun z hz2=>by rw[eA hxi]at hz2;rcases List.mem_append.1 hz2 with h9 |h9;exact hz z h9;(rw[List.mem_singleton.1 h9];exact h3)⟩
 have hin:=bi hi t29;have he:cI l xs=0:=by rw[he0];exact pN (fun y hy=>hz y (by rw[hin,Xg];exact hy))
 refine gW (Wk.o (sl:=[(1,some (.lst 4 (xs.map Tn.av))),(2,some (.ptr 2 0)),(6,some (.lst 4 ((splitG l).map Gr.av)))]) (hp:=[(2,some (.box l.av.cells))])) ?_ (77777,0);refine gW (Wk.of (sl:=[(4,some (.ptr 42 0)),(5,some (.v .nilIface))]) (hp:=[(42,some (.box (fy l xs (splitG l) 198 [] false (nS))))]) a8 (.cons rfl (BlkSub.bL (.cons (.refl _) (.cons (.refl _) (.cons (.refl _) (.cons (.refl _) (.cons (.refl _) (.cons (.refl _) (.cons ((Sub.fn0 _).trans (rE rfl)) (.cons (.refl _) (.cons (.refl _) .nil))))))))) rfl) .nil)) ?_ (77777,0);refine gW (Wk.rk (k:=42) (d:=900) rfl rfl) ?_;refine gR ?_;rw[he];exact az.keep (bm rfl)
section
variable{P:Program}{N:Nat}{R:Array Oper}{s:AS}{pos:String}{after:Array Edge}
theorem BB{d f k k2:Nat}{bx bx2:Blk}{args:Array Operand}{ts:Array TypeId}{xs:List AV}{r:AV}{t:TypeId}
  (hcon:Con P f xs [(k,some bx),(k2,some bx2)] r [(k,some bx),(k2,some bx2)]) (ha:EvL s args.toList xs) (hne:Nat.beq k2 k=false) (hk:s.blk k=some bx) (hk2:s.blk k2=some bx2)
  (hok:iM s [(k,some bx),(k2,some bx2)] [(k,some bx),(k2,some bx2)] r=true) (hN:Nat.blt d N=true) :
  Step P N R s ⟨some d,.call ⟨.value (.func f),args,ts⟩,t,pos,after,none⟩ ⟨some r,[],eJ args.toList,[k,k2]⟩:=by
 have hne':k2≠k:=fun e=>by rw[e,Nat.beq_refl]at hne;cases hne
 refine Step.weaken (aE (d:=d) hcon ha (fun k' z h=>by
  rcases mH h with⟨rfl,h9⟩ |⟨_,rfl,h9⟩
  ·cases h9;exact hk
  ·cases h9;exact hk2) hok hN) (fun s' h=>h) (fun s' h k' hk'=>?_) (fun s' h=>?_)
 ·left;simp only[Xl,dj,XH,map_nil,mem_append,Xu,Xf,or_false]at hk' ⊢;rcases hk' with h9 |h9 <;> exact h9
 ·intro C m a w hr;refine ⟨m,hr.weak (fun t x hx=>⟨x,hx,.refl _⟩) (fun k' x hx=>⟨x,?_,.refl _⟩)⟩;have hb:lk s'.hp k = some bx:=(h.2 k (by simp)).trans hk;have hb2:lk s'.hp k2 = some bx2:=(h.2 k2 (by simp)).trans hk2;show lk ([(k,some bx),(k2,some bx2)] ++ dj [(k,some bx),(k2,some bx2)] ++ s'.hp) k' = some x;have hx':lk s'.hp k' = some x:=hx;simp only [dj,XH,map_nil,List.cons_append,nil_append,aT]
  by_cases e:k'=k
  ·rw[XK e];rw[e,hb]at hx';exact hx'
  ·rw[XJ e]
   by_cases e2:k'=k2
   ·rw[XK e2];rw[e2,hb2]at hx';exact hx'
   ·rw[XJ e2,XJ e,XJ e2];exact hx'
end
def qV(k:Nat):Nat:=bif Nat.beq k 1001 then 901 else bif Nat.beq k 901 then 1001 else k
theorem Mv(k:Nat):qV (qV k)=k:=by
 by_cases h1:k=1001
 ·subst h1;rfl
 ·by_cases h2:k=901
  ·subst h2;rfl
  ·have nb:∀{a b:Nat},a≠b->Nat.beq a b=false:=fun h=>by
    cases h9:Nat.beq _ _ with
    |false=>rfl
    |true=>exact absurd (W5 h9) h
   have e:qV k=k:=by simp only[qV,nb h1,nb h2,cond_false]
   rw[e,e]
theorem S7{l:Li}{xs:List Tn}{G:List Gr}{fo:FuncId}{caps:List AV}{sg:Bool}{es es':List AV}{a:Aq}{e:Nat}
  (h:Con prog 100 [.ptr 1000 0,a.av] (ff l xs G fo caps sg 1001 es) (bq e) (ff l xs G fo caps sg 900 es')) :
  Con prog 100 [.ptr 1000 0,a.av] (ff l xs G fo caps sg 901 es) (bq e) (ff l xs G fo caps sg 900 es') :=
 Con.pm Mv h
theorem MZ{l:Li}{xs:List Tn}{G:List Gr}{fo:FuncId}{caps:List AV}{sg:Bool}{o:List Aq}{a:Aq}(hk:a.ms.length=G.length)(hG:G.length<=100)(ho:o.length<=1000)
  (hcl:FP 199 [a.av] a.av) :
  Con prog 100 [.ptr 1000 0,a.av] (ff l xs G fo caps sg 1001 (o.map Aq.av)) (bq 0) (ff l xs G fo caps sg 900 ((o++[a]).map Aq.av)):=by
 refine gF func100 (fun k z h=>vE oz h) ?_;refine gl ?_;refine gl ?_;refine gC (fun t21=>?_) (fun t21=>?_) (st2:=(77777,0))
 ·refine gc hcl ?_;refine gs (cO (.tmp rfl) rfl (by rw [WW]) (.tmp rfl) T85 rfl T41 rfl rfl (by simp only [WW,W9,Xi]; omega) rfl rfl) ?_;refine gD ?_ (4,0);refine gW (Wk.of (sl:=[(4,some (.v .nilIface))]) (hp:=[(1000,some (.box (fy l xs G fo caps sg (.ms 30 3 0 ((o ++ [a]).map Aq.av).length)))),(30,some (.row 3 ((o ++ [a]).map Aq.av)))]) a8 (.cons rfl (BlkSub.bL (.cons (.refl _) (.cons (.refl _) (.cons (.refl _) (.cons (.refl _) (.cons (.refl _) (.cons (.refl _) (.cons (.refl _) (.cons (.refl _) (.cons (Sub.of (by simp)) .nil))))))))) rfl) (.cons rfl (BlkSub.of (by rw [Xl]; rfl)) .nil))) ?_ (4,0)
  refine gW (Wk.rk (k:=30) (d:=900) rfl rfl) ?_;refine gR ?_;exact az.keep (l7 rfl rfl)
 exact absurd t21 (by rw[hk];simp[aa])
theorem qQ(F:Int->Bool)(sg:Bool)(f:Sv->List Aq×Nat)(s:Sv)(r:List Sv) :
  fx F sg f (s::r)=if F s.mode=false then fx F sg f r else if(f s).2≠0 then f s else if sg=true then f s else((f s).1++(fx F sg f r).1,(fx F sg f r).2):=rfl
theorem p6{α:Type}{l:List α}{i:Nat}{x:α}(h:l[i]?=some x):l.drop i=x::l.drop (i+1):=by
 obtain⟨hi,e⟩:=List.getElem?_eq_some_iff.1 h;rw[List.drop_eq_getElem_cons hi,e]
def pI(F:Int->Bool)(sg:Bool)(f:Sv->List Aq×Nat)(S:List Sv)(i:Nat)(c:List Aq):Prop :=
  i<=S.length/\fx F sg f S=(c++(fx F sg f (S.drop i)).1,(fx F sg f (S.drop i)).2)
theorem Mn(F:Int->Bool)(sg:Bool)(f:Sv->List Aq×Nat)(S:List Sv):pI F sg f S 0 []:=⟨W7 _,rfl⟩
section
variable{F:Int->Bool}{sg:Bool}{f:Sv->List Aq×Nat}{S:List Sv}{i:Nat}{c:List Aq}(h:pI F sg f S i c){s:Sv}(hs:S[i]?=some s)
include h hs
theorem V2(hF:F s.mode=false):pI F sg f S (i+1) c:=by
 have h2:=h.2;rw[p6 hs,qQ,XK hF]at h2;exact⟨(List.getElem?_eq_some_iff.1 hs).1,h2⟩
theorem UY(hF:F s.mode=true)(he:(f s).2≠0):fx F sg f S=(c++(f s).1,(f s).2):=by
 have h2:=h.2;rw[p6 hs,qQ,XJ (by rw[hF];simp),XK he]at h2;exact h2
theorem MC(hF:F s.mode=true)(he:(f s).2=0)(h1:sg=true):fx F sg f S=(c++(f s).1,0):=by
 have h2:=h.2;rw[p6 hs,qQ,XJ (by rw[hF];simp),XJ oz,XK h1,he]at h2;exact h2
theorem P8(hF:F s.mode=true)(he:(f s).2=0)(h1:sg=false):pI F sg f S (i+1) (c++(f s).1):=by
 have h2:=h.2;rw[p6 hs,qQ,XJ (by rw[hF];simp),XJ oz,XJ (by rw[h1];simp)]at h2;exact⟨(List.getElem?_eq_some_iff.1 hs).1,by rw[h2,XD]⟩
end
theorem M3{F:Int->Bool}{sg:Bool}{f:Sv->List Aq×Nat}{S:List Sv}{c:List Aq}(h:pI F sg f S S.length c):fx F sg f S=(c,0):=by
 have h2:=h.2;rw[List.drop_length]at h2;rw[h2];simp[fx]
theorem Wq{l:Li}{xs:List Tn}{G:List Gr}{fo:FuncId}{caps:List AV}{sg:Bool}{o:List Aq}{a:Aq}{g:Gr}(hg:G[a.ms.length]?=some g)(hG:G.length<=100)(hx:xs.length<=100)(hd:g.kind=0->0<=g.driver/\g.driver<xs.length)
  {S:List Sv} {E:Nat} (hS:FP 18 [l.av,i64 a.ms.length,(bZ g xs).av,a.av] (.tup [.lst 3 (S.map Sv.av),bq E])) (hSl:S.length<=100)
  {F:Int->Bool} (hF:∀m,FP fo ([i64 a.ms.length,i64 m]++caps) (bl (F m)))
  (hb:∀s∈S,FP 201 [a.av,g.av,s.av] (a.nxt g s).av)
  {f:Sv->List Aq×Nat} {M B:Nat} (hM:∀s∈S,(f s).1.length<=M) (hB:o.length+S.length*M<=B) (ih:∀(o:List Aq),o.length+M<=B->∀s∈S,Con prog 100 [.ptr 1000 0,(a.nxt g s).av] (ff l xs G fo caps sg 1001 (o.map Aq.av)) (bq (f s).2) (ff l xs G fo caps sg 900 ((o++(f s).1).map Aq.av))) :
  Con prog 100 [.ptr 1000 0,a.av] (ff l xs G fo caps sg 1001 (o.map Aq.av)) (bq (if E≠0 then E else(fx F sg f S).2)) (ff l xs G fo caps sg 900 ((o++(if E≠0 then[]else(fx F sg f S).1)).map Aq.av)):=by
 have hkG:=(List.getElem?_eq_some_iff.1 hg).1;refine gF func100 (fun k z h=>vE oz h) ?_;refine gl ?_;refine gl ?_;refine gC (fun t21=>?_) (fun t21=>?_) (st1:=(3,0));exact absurd t21 (by simp[aa];omega);refine gi (aI hg) ?_;refine gt (BB (JD hd hx) (bD rfl rfl) rfl rfl rfl rfl rfl) ?_;refine gc hS ?_;refine gD ?_;refine gC (fun t54=>?_) (fun t54=>?_) (st1:=(8,0)) (st2:=(77777,0))
 ·have hE:=dl t54;refine gW (Wk.o (sl:=[(4,some (.v .nilIface)),(8,some (bq E))]) (hp:=[(1000,some (.box (fy l xs G fo caps sg (.ms 1001 3 0 (o.map Aq.av).length)))),(1001,some (.row 3 (o.map Aq.av)))])) ?_ (8,0);refine gW (Wk.rk (k:=1001) (d:=900) rfl rfl) ?_;refine gR ?_;rw[XK hE,XK hE,append_nil];exact az.keep (l7 rfl rfl)
 have hE:=cZ t54;refine gW (Wk.of (sl:=[(0,some (.ptr 1000 0)),(3,some (.ptr 3 0)),(5,some (i64 a.ms.length)),(6,some (.ptr 6 0)),(7,some (.lst 3 (S.map Sv.av)))]) (hp:=[(3,some (.box a.cs)),(6,some (.box g.av.cells)),(1000,some (.box (fy l xs G fo caps sg (.ms 1001 3 0 ((o++[]).map Aq.av).length)))),(1001,some (.row 3 ((o++[]).map Aq.av)))]) a8 (.k (.k (.cons rfl (BlkSub.bL (.cons (.refl _) (.cons (.refl _) (.cons (.refl _) (.cons (.refl _) (.cons (.refl _) (.cons (.refl _) (.cons (.refl _) (.cons (.refl _) (.cons (Sub.of (by simp)) .nil))))))))) rfl) (.cons rfl (BlkSub.of (by rw[append_nil])) .nil))))) ?_ (77777,0)
 refine gW (Wk.rk (k:=1001) (d:=901) rfl rfl) ?_;refine gl ?_;refine gw [0,3,5,6,56,57] [3,6] (fun(i:Nat)(c:List Aq)=>[(58,some (i64 i))]) (fun _ c=>[(1000,some (.box (fy l xs G fo caps sg (.ms 901 3 0 ((o++c).map Aq.av).length)))),(901,some (.row 3 ((o++c).map Aq.av)))]) (fun i c=>pI F sg f S i c/\c.length<=i*M) (fun i _=>S.length-i) 0 ([]) ⟨Mn F sg f S,W7 _⟩ ?_;rintro i c ⟨hfo,hcl⟩ K1 J1;refine gC (fun t59=>?_) (fun t59=>?_) (st2:=(19,0))
 ·have hin:=a6 t59;obtain⟨s,hs⟩:=ax hin;have hsm:=WU hs;have hfl:=hM s hsm;have hmul:(i+1)*M=i*M+M:=Nat.succ_mul i M;have hmul2:(i+1)*M<=S.length*M:=Xn M hin;refine gi (aI hs) ?_;refine gc (hF s.mode) ?_;refine gD ?_;refine gC (fun t70=>?_) (fun t70=>?_) (st2:=(77777,0))
  ·have hFm : F s.mode = false := by simpa using t70
   refine ga aO ?_;exact f9 J1 (i+1) c ⟨V2 hfo hs hFm,by omega⟩
  have hFm:F s.mode=true:=by simpa using t70
  refine gW (Wk.o (sl:=[(0,some (.ptr 1000 0)),(3,some (.ptr 3 0)),(5,some (i64 a.ms.length)),(6,some (.ptr 6 0)),(10,some (.ptr 10 0)),(56,some (.lst 3 (S.map Sv.av))),(57,some (i64 S.length)),(58,some (i64 i))]) (hp:=[(3,some (.box a.cs)),(6,some (.box g.av.cells)),(10,some (.box s.av.cells)),(1000,some (.box (fy l xs G fo caps sg (.ms 901 3 0 ((o++c).map Aq.av).length)))),(901,some (.row 3 ((o++c).map Aq.av)))])) ?_
  refine gc (hb s hsm) ?_;refine gt (aE (S7 (ih (o++c) (by rw[Xo];omega) s hsm)) (bD rfl rfl) aH rfl rfl) ?_;refine gC (fun t78=>?_) (fun t78=>?_)
  ·have he:(f s).2≠0:=dl t78;have hR:=UY hfo hs hFm he;refine gR ?_;rw[XJ oz,XJ oz,hR,<- XD];exact az.keep (l7 rfl rfl)
  have he:(f s).2=0:=cZ t78;refine gC (fun t83=>?_) (fun t83=>?_) (st2:=(77777,0))
  ·have h1 : sg = true := by simpa using t83
   have hR:=MC hfo hs hFm he h1;refine gR ?_;rw[XJ oz,XJ oz,hR,<- XD];exact az.keep (l7 rfl rfl)
  have h1:sg=false:=by simpa using t83
  refine gW (Wk.of (sl:=[(0,some (.ptr 1000 0)),(3,some (.ptr 3 0)),(5,some (i64 a.ms.length)),(6,some (.ptr 6 0)),(56,some (.lst 3 (S.map Sv.av))),(57,some (i64 S.length)),(58,some (i64 i))]) (hp:=[(3,some (.box a.cs)),(6,some (.box g.av.cells)),(1000,some (.box (fy l xs G fo caps sg (.ms 900 3 0 ((o++(c++(f s).1)).map Aq.av).length)))),(900,some (.row 3 ((o++(c++(f s).1)).map Aq.av)))]) a8 (.k (.k (.cons rfl (BlkSub.bL (.cons (.refl _) (.cons (.refl _) (.cons (.refl _) (.cons (.refl _) (.cons (.refl _) (.cons (.refl _) (.cons (.refl _) (.cons (.refl _) (.cons (Sub.of (by rw[XD])) .nil))))))))) rfl) (.cons rfl (BlkSub.of (by rw[XD])) .nil))))) ?_ (77777,0)
  refine gW (Wk.rk (k:=900) (d:=901) rfl rfl) ?_;refine ga aO ?_;exact f9 J1 (i+1) (c++(f s).1) ⟨P8 hfo hs hFm he h1,by rw[Xo];omega⟩
 have hin:=bi hfo.1 t59;subst hin;have hR:=M3 hfo;refine gW (Wk.o (sl:=[]) (hp:=[(1000,some (.box (fy l xs G fo caps sg (.ms 901 3 0 ((o++c).map Aq.av).length)))),(901,some (.row 3 ((o++c).map Aq.av)))])) ?_ (19,0);refine gW (Wk.rk (k:=901) (d:=900) rfl rfl) ?_;refine gR ?_;rw[XJ oz,XJ oz,hR];exact az.keep (l7 rfl rfl)
variable{P:Program}{N:Nat}{R:Array Oper}{s:AS}{pos:String}{after:Array Edge}
end Go.Lw
namespace Go.Lw
open Go.Proofs
theorem q8(i:Int)(n:Nat):FP 227 [i64 i,i64 n] (bl (bt i n)):=by
 refine aj func227 ?_;refine af ?_;exact congrArg bl (HL i n)
theorem Og(p q:Mk)(hp:p.ok)(hq:q.ok):FP 228 [p.av,q.av] (bl (decide (p.x.q=q.x.q/\p.y.q=q.y.q))):=by
 refine aj func228 ?_;refine gc (Gx p.x q.x hp.x hq.x ((hp.qx.sub hq.qx).qs oz)) ?_;refine b9 (fun _=>(Gx p.y q.y hp.y hq.y ((hp.qy.sub hq.qy).qs oz))) ?_;refine af ?_;exact congrArg bl Vf
theorem Kc(b:Bd)(hbo:b.ok):FP 226 [b.av] (i64 (if 8<b.pts.length then 4 else fa b.pts.length (d8 b.pts):Nat)):=by
 have hll:=hbo.ll;refine aj func226 ?_;refine gl ?_;refine gC (fun t9=>?_) (fun t9=>?_)
 ·have h0:8<b.pts.length:=jl t9;refine af ?_;rw[XK h0];rfl
 have h0:b.pts.length<=8:=g9 t9;have e0:(if 8<b.pts.length then 4 else fa b.pts.length (d8 b.pts):Nat)=fa b.pts.length (d8 b.pts):=XJ oz;refine aZ [1] [1] (fun(p:Nat)=>[(3,some (i64 p))]) (fun _=>[]) (fun p=>p<=b.pts.length/\∀j,j<p->d8 b.pts j=0) (fun p=>b.pts.length-p) 0 ⟨W7 _,fun j h=>by omega⟩ ?_;rintro p ⟨hp,hpj⟩ K1 J1;refine gl ?_;refine gC (fun t14=>?_) (fun t14=>?_)
 ·have hpn:=a6 t14;obtain⟨m,hm⟩:=ax hpn;have hmd:b.pts.getD p default=m:=au hm;have hmm:=WU hm;have hmdup:=mN Mk.name hm;have hmo:=hbo.pts m hmm;refine gi (aI hm) ?_;refine gc (rS m.name (hbo.names m hmm)) ?_;refine gC (fun t25=>?_) (fun t25=>?_)
  ·have h4:=df t25;have e2:d8 b.pts p = 5:=by unfold d8; rw [hmd,XK h4]
   refine af ?_;rw[e0,eg hpn hpj (by rw[e2];decide),e2];rfl
  have h4:=c9 t25;refine aZ [1,3,4] [1,4] (fun(q:Nat)=>[(5,some (i64 q))]) (fun _=>[]) (fun q=>q<=p/\(b.pts.take q).any (fun y=>dJ y.name m.name)=false) (fun q=>p-q) 0 ⟨W7 _,rfl⟩ ?_;rintro q ⟨hq,hqd⟩ K2 J2;refine gC (fun t28=>?_) (fun t28=>?_)
  ·have hqn:=a6 t28;obtain⟨y,hy⟩:∃y,b.pts[q]?=some y:=ax oz;refine gi (aI hy) ?_;refine gD ?_;refine gC (fun t39=>?_) (fun t39=>?_)
   ·have h5:dJ y.name m.name = true:=t39;have e2:d8 b.pts p = 6:=by unfold d8; rw [hmd,XJ (by rw [h4]; decide),XK (by rw [hmdup]; exact lM hy hqn h5)]
    refine af ?_;rw[e0,eg hpn hpj (by rw[e2];decide),e2];rfl
   have h5:dJ y.name m.name=false:=t39;refine ga aO ?_;exact aP J2 (q+1) ⟨hqn,kA hy hqd h5⟩
  have hqn:=bi hq t28;subst hqn;have hmnd:¬gy (b.pts.map Mk.name) q=true:=by rw[hmdup,hqd];decide
  refine gc (A7 m.x hmo.x) ?_;refine b9 (fun _=>(A7 m.y hmo.y)) ?_;refine gC (fun t49=>?_) (fun t49=>?_)
  ·have h6:=nO t49;have e2:d8 b.pts q = 3:=by unfold d8; rw [hmd,XJ (by rw [h4]; decide),XJ hmnd,XJ (by rintro ⟨g1,g2⟩; rcases h6 with g | g; (rw [g1] at g; cases g); (rw [g2] at g; cases g))]
   refine af ?_;rw[e0,eg hpn hpj (by rw[e2];decide),e2];rfl
  have h6:=ou t49;have e2:d8 b.pts q=0:=by unfold d8;rw[hmd,XJ (by rw[h4];decide),XJ hmnd,XK h6]
  refine ga aO ?_;exact aP J1 (q+1) ⟨hpn,fun j h9=>by rcases W3 j q with g |g;exact hpj j g;(have:j=q:=by omega);subst this;exact e2⟩
 have hpn:=bi hp t14;subst hpn;refine af ?_;rw[e0,nH hpj];rfl
theorem Vb(l:Li)(hl:l.ok):FP 112 [l.av] (i64 (il l)):=by
 have hlb:=hl.lb;have e0:il l=fa l.bo.length (ep l.bo):=rfl;refine aj func112 ?_;refine aZ [1] [1] (fun(i:Nat)=>[(3,some (i64 i))]) (fun _=>[]) (fun i=>i<=l.bo.length/\∀j,j<i->ep l.bo j=0) (fun i=>l.bo.length-i) 0 ⟨W7 _,fun j h=>by omega⟩ ?_;rintro i ⟨hi,hj⟩ K1 J1;refine gl ?_;refine gC (fun t10=>?_) (fun t10=>?_)
 ·have hin:=a6 t10;obtain⟨b,hb⟩:=ax hin;have hbd:l.bo.getD i default=b:=au hb;have hbo:=hl.bo b (WU hb);have hbdup:=mN Bd.name hb;refine gi (aI hb) ?_;refine gc (rS b.name hbo.name) ?_;refine gC (fun t20=>?_) (fun t20=>?_)
  ·have h1:=df t20;have e1:ep l.bo i = 5:=by unfold ep; rw [hbd,XK h1]
   refine af ?_;rw[e0,eg hin hj (by rw[e1];decide),e1];rfl
  have h1:=c9 t20;refine aZ [1,3] [1] (fun(k:Nat)=>[(4,some (i64 k))]) (fun _=>[]) (fun k=>k<=i/\(l.bo.take k).any (fun y=>dJ y.name b.name)=false) (fun k=>i-k) 0 ⟨W7 _,rfl⟩ ?_;rintro k ⟨hk,hd⟩ K2 J2;refine gC (fun t23=>?_) (fun t23=>?_)
  ·have hkn:=a6 t23;obtain⟨y,hy⟩:∃y,l.bo[k]?=some y:=ax oz;refine gi (aI hy) ?_;refine gi (aI hb) ?_;refine gD ?_;refine gC (fun t38=>?_) (fun t38=>?_)
   ·have h2:dJ y.name b.name = true:=t38;have e1:ep l.bo i = 6:=by unfold ep; rw [hbd,XJ (by rw [h1]; decide),XK (by rw [hbdup]; exact lM hy hkn h2)]
    refine af ?_;rw[e0,eg hin hj (by rw[e1];decide),e1];rfl
   have h2:dJ y.name b.name=false:=t38;refine ga aO ?_;exact aP J2 (k+1) ⟨hkn,kA hy hd h2⟩
  have hkn:=bi hk t23;subst hkn;have hnd:¬gy (l.bo.map Bd.name) k=true:=by rw[hbdup,hd];decide
  have e1:ep l.bo k=if 8<b.pts.length then 4 else fa b.pts.length (d8 b.pts):=by unfold ep;rw[hbd,XJ (by rw[h1];decide),XJ hnd]
  refine gi (aI hb) ?_;refine gc (Kc b hbo) ?_;refine gC (fun t46=>?_) (fun t46=>?_)
  ·have h3:=rI t46;refine af ?_;rw[e0,eg hin hj (by rw[e1];exact h3),e1]
  have h3:=pV t46;refine ga aO ?_;exact aP J1 (k+1) ⟨hin,fun j h9=>by rcases W3 j k with g |g;exact hj j g;(have:j=k:=by omega);subst this;exact e1.trans h3⟩
 have hin:=bi hi t10;subst hin;refine af ?_;rw[e0,nH hj];rfl
theorem LY(l:Li)(hl:l.ok)(i:Nat)(hi:i<l.jo.length)(h16:l.jo.length<=16):FP 113 [l.av,i64 i] (i64 (fT l i)):=by
 obtain⟨j,hjj⟩:=ax hi;have hbd:l.jo.getD i default=j:=au hjj;have hbdup:=mN Jt.name hjj;refine aj func113 ?_;refine gi (aI hjj) ?_;refine gc (rS j.name (hl.jnames j (WU hjj))) ?_;refine gC (fun t17=>?_) (fun t17=>?_)
 ·have h0:=df t17;refine af ?_;unfold fT;rw[hbd,XK h0];rfl
 have h0:=c9 t17;refine aZ [1,2,5] [2,5] (fun(k:Nat)=>[(6,some (i64 k))]) (fun _=>[]) (fun k=>k<=i/\(l.jo.take k).any (fun y=>dJ y.name j.name)=false) (fun k=>i-k) 0 ⟨W7 _,rfl⟩ ?_;rintro k ⟨hk,hd⟩ K1 J1;refine gC (fun t20=>?_) (fun t20=>?_)
 ·have hkn:=a6 t20;obtain⟨y,hy⟩:∃y,l.jo[k]?=some y:=ax oz;refine gi (aI hy) ?_;refine gD ?_;refine gC (fun t31=>?_) (fun t31=>?_)
  ·have h2:dJ y.name j.name=true:=t31;refine af ?_;unfold fT;rw[hbd,XJ (by rw[h0];decide),XK (by rw[hbdup];exact lM hy hkn h2)];rfl
  have h2:dJ y.name j.name=false:=t31;refine ga aO ?_;exact aP J1 (k+1) ⟨hkn,kA hy hd h2⟩
 have hkn:=bi hk t20;subst hkn;have hnd:¬gy (l.jo.map Jt.name) k=true:=by rw[hbdup,hd];decide
 have e1:fT l k=er l j:=by unfold fT;rw[hbd,XJ (by rw[h0];decide),XJ hnd]
 refine gC (fun t39=>?_) (fun t39=>?_)
 ·have h1:=C7 t39;refine af ?_;rw[e1];unfold er;rw[XK h1];rfl
 have h1:=IM t39;refine gl ?_;refine gc (q8 j.a l.bo.length) ?_;refine cD ?_;refine b9 (fun _=>(q8 j.b l.bo.length)) ?_;refine gC (fun t55=>?_) (fun t55=>?_)
 ·have h2:=nO t55;refine af ?_;rw[e1];unfold er;rw[XJ h1,XK h2];rfl
 have h2:=ou t55;have h2n:¬(bt j.a l.bo.length=false\/bt j.b l.bo.length=false):=by rw[h2.1,h2.2];simp
 obtain⟨A,hA,pA,mA,zA0⟩:=qr h2.1;obtain⟨B,hB,pB,mB,zB0⟩:=qr h2.2;refine gC (fun t60=>?_) (fun t60=>?_)
 ·have h3:=cK t60;refine af ?_;rw[e1];unfold er;rw[XJ h1,XJ h2n,XK h3];rfl
 have h3:=dq t60;refine gi (aI hA) ?_;refine gi (aI hB) ?_;refine gD ?_;refine gl ?_;refine gc (q8 j.point A.pts.length) ?_;refine cD ?_;refine b9 (fun _=>(q8 j.on B.pts.length)) ?_;refine gC (fun t88=>?_) (fun t88=>?_)
 ·have h4:=nO t88;refine af ?_;rw[e1];unfold er;rw[XJ h1,XJ h2n,XJ h3,pA,pB,XK h4];rfl
 have h4:=ou t88;have h4n:¬(bt j.point A.pts.length=false\/bt j.on B.pts.length=false):=by rw[h4.1,h4.2];simp
 refine gC (fun t91=>?_) (fun t91=>?_)
 ·have h5:=cK t91;refine gC (fun t94=>?_) (fun t94=>?_)
  ·have h6:=ni t94;refine af ?_;rw[e1];unfold er;rw[XJ h1,XJ h2n,XJ h3,pA,pB,XJ h4n,XK h5,XK h6];rfl
  have h6:=rZ t94;refine af ?_;rw[e1];unfold er;rw[XJ h1,XJ h2n,XJ h3,pA,pB,XJ h4n,XK h5,XJ (by rw[h6];simp)];rfl
 have h5:=dq t91;refine gl ?_;refine gc (q8 j.to B.pts.length) ?_;refine gC (fun t100=>?_) (fun t100=>?_)
 ·have h6:=df t100;refine af ?_;rw[e1];unfold er;rw[XJ h1,XJ h2n,XJ h3,pA,pB,XJ h4n,XJ h5,XK h6];rfl
 have h6:=c9 t100;obtain⟨m1,g1,d1,mm1,z1⟩:=tf h4.2;obtain⟨m2,g2,d2,mm2,z2⟩:=tf h6;have mo1:=(hl.bo B mB).pts m1 mm1;have mo2:=(hl.bo B mB).pts m2 mm2;refine gi (aI g1) ?_;refine gi (aI g2) ?_;refine gc (Og m1 m2 mo1 mo2) ?_;refine gD ?_;refine gC (fun t111=>?_) (fun t111=>?_)
 ·have h7:=of_decide_eq_true t111;refine af ?_;rw[e1];unfold er;rw[XJ h1,XJ h2n,XJ h3,pA,pB,XJ h4n,XJ h5,XJ (by rw[h6];decide),d1,d2,XK h7];rfl
 have h7:=of_decide_eq_false t111;refine af ?_;rw[e1];unfold er;rw[XJ h1,XJ h2n,XJ h3,pA,pB,XJ h4n,XJ h5,XJ (by rw[h6];decide),d1,d2,XJ h7];rfl
theorem OG(l:Li)(hl:l.ok)(i:Nat)(hi:i<l.dv.length)(h2l:l.dv.length<=2):FP 114 [l.av,i64 i] (i64 (d6 l i)):=by
 obtain⟨b,hb⟩:=ax hi;have hbd:l.dv.getD i default=b:=au hb;have hbdup:=mN Dr.name hb;refine aj func114 ?_;refine gi (aI hb) ?_;refine gc (rS b.name (hl.dnames b (WU hb))) ?_;refine gC (fun t16=>?_) (fun t16=>?_)
 ·have h1:=df t16;refine af ?_;unfold d6;rw[hbd,XK h1];rfl
 have h1:=c9 t16;refine aZ [1,2,5] [2,5] (fun(k:Nat)=>[(6,some (i64 k))]) (fun _=>[]) (fun k=>k<=i/\(l.dv.take k).any (fun y=>dJ y.name b.name)=false) (fun k=>i-k) 0 ⟨W7 _,rfl⟩ ?_;rintro k ⟨hk,hd⟩ K1 J1;refine gC (fun t19=>?_) (fun t19=>?_)
 ·have hkn:=a6 t19;obtain⟨y,hy⟩:∃y,l.dv[k]?=some y:=ax oz;refine gi (aI hy) ?_;refine gD ?_;refine gC (fun t30=>?_) (fun t30=>?_)
  ·have h2:dJ y.name b.name=true:=t30;refine af ?_;unfold d6;rw[hbd,XJ (by rw[h1];decide),XK (by rw[hbdup];exact lM hy hkn h2)];rfl
  have h2:dJ y.name b.name=false:=t30;refine ga aO ?_;exact aP J1 (k+1) ⟨hkn,kA hy hd h2⟩
 have hkn:=bi hk t19;subst hkn;have hnd:¬gy (l.dv.map Dr.name) k=true:=by rw[hbdup,hd];decide
 refine gl ?_;refine gc (q8 b.body l.bo.length) ?_;refine gC (fun t37=>?_) (fun t37=>?_)
 ·have h3:=df t37;refine af ?_;unfold d6;rw[hbd,XJ (by rw[h1];decide),XJ hnd,XK h3];rfl
 have h3:=c9 t37;refine gC (fun t40=>?_) (fun t40=>?_)
 ·have h4:=cK t40;refine af ?_;unfold d6;rw[hbd,XJ (by rw[h1];decide),XJ hnd,XJ (by rw[h3];decide),XK h4];rfl
 have h4:=dq t40;have e1:d6 l k=if(l.dv.take k).any (fun d=>decide (d.body=b.body))=true then 6 else 0:=by unfold d6;rw[hbd,XJ (by rw[h1];decide),XJ hnd,XJ (by rw[h3];decide),XJ h4]
 refine aZ [1,2,5] [2,5] (fun(q:Nat)=>[(7,some (i64 q))]) (fun _=>[]) (fun q=>q<=k/\(l.dv.take q).any (fun d=>decide (d.body=b.body))=false) (fun q=>k-q) 0 ⟨W7 _,rfl⟩ ?_;rintro q ⟨hq,hqd⟩ K2 J2;refine gC (fun t43=>?_) (fun t43=>?_)
 ·have hqn:=a6 t43;obtain⟨y,hy⟩:∃y,l.dv[q]?=some y:=ax oz;refine gi (aI hy) ?_;refine gD ?_;refine gC (fun t54=>?_) (fun t54=>?_)
  ·have h5:decide (y.body=b.body)=true:=decide_eq_true (cK t54);refine af ?_;rw[e1,XK (lM hy hqn h5)];rfl
  have h5:decide (y.body=b.body)=false:=decide_eq_false (dq t54);refine ga aO ?_;exact aP J2 (q+1) ⟨hqn,kA hy hqd h5⟩
 have hqn:=bi hq t43;subst hqn;refine af ?_;rw[e1,hqd];rfl
theorem Gn(l:Li)(hl:l.ok):FP 40 [l.av] (i64 (aG l)):=by
 have hlb:=hl.lb;refine aj func40 ?_;refine gc (rS l.name hl.name) ?_;refine gC (fun t11=>?_) (fun t11=>?_)
 ·have h1:=df t11;refine af ?_;unfold aG;rw[XK h1];rfl
 have h1:=c9 t11;refine gl ?_;refine gC (fun t15=>?_) (fun t15=>?_)
 ·have h2:=F7 t15;refine af ?_;unfold aG;rw[XJ (by rw[h1];decide),XK h2];rfl
 have h2:=E1 t15;refine gl ?_;refine gC (fun t19=>?_) (fun t19=>?_)
 ·have h3:8<l.bo.length:=jl t19;refine af ?_;unfold aG;rw[XJ (by rw[h1];decide),XJ h2,XK h3];rfl
 have h3:l.bo.length<=8:=g9 t19;have e0:aG l=if il l≠0 then il l else if eT l≠0 then eT l else gM l:=by unfold aG;rw[XJ (by rw[h1];decide),XJ h2,XJ oz]
 refine gc (Vb l hl) ?_;refine gC (fun t23=>?_) (fun t23=>?_)
 ·have h4:il l≠0:=rI t23;refine af ?_;rw[e0,XK h4]
 have h4:il l=0:=pV t23;refine gl ?_;refine gC (fun t28=>?_) (fun t28=>?_)
 ·have h5:16 < l.jo.length:=jl t28;have ej:eT l = 4:=by unfold eT; rw [XK h5]
  refine af ?_;rw[e0,XJ (by rw[h4];simp),XK (by rw[ej];decide),ej];rfl
 have h5:l.jo.length<=16:=g9 t28;have ej:eT l=fa l.jo.length (fT l):=by unfold eT;rw[XJ oz]
 refine aZ [1] [1] (fun(i:Nat)=>[(4,some (i64 i))]) (fun _=>[]) (fun i=>i<=l.jo.length/\∀j,j<i->fT l j=0) (fun i=>l.jo.length-i) 0 ⟨W7 _,fun j h=>by omega⟩ ?_;rintro i ⟨hi,hj⟩ K1 J1;refine gl ?_;refine gC (fun t33=>?_) (fun t33=>?_)
 ·have hin:=a6 t33;refine gc (LY l hl i hin h5) ?_;refine gC (fun t40=>?_) (fun t40=>?_)
  ·have h6:=rI t40;refine af ?_;rw[e0,XJ (by rw[h4];simp),XK (by rw[ej,eg hin hj h6];exact h6),ej,eg hin hj h6]
  have h6:=pV t40;refine ga aO ?_;exact aP J1 (i+1) ⟨hin,fun j h9=>by rcases W3 j i with g |g;exact hj j g;(have:j=i:=by omega);subst this;exact h6⟩
 have hin:=bi hi t33;subst hin;have ejz:eT l=0:=ej.trans (nH hj);have e0':aG l=gM l:=by rw[e0,XJ (by rw[h4];simp),XJ (by rw[ejz];simp)]
 refine gl ?_;refine gC (fun t45=>?_) (fun t45=>?_)
 ·have h6:2<l.dv.length:=jl t45;refine af ?_;rw[e0'];unfold gM;rw[XK h6];rfl
 have h6:l.dv.length<=2:=g9 t45;have ed:gM l=fa l.dv.length (d6 l):=by unfold gM;rw[XJ oz]
 refine aZ [1] [1] (fun(k:Nat)=>[(6,some (i64 k))]) (fun _=>[]) (fun k=>k<=l.dv.length/\∀j,j<k->d6 l j=0) (fun k=>l.dv.length-k) 0 ⟨W7 _,fun j h=>by omega⟩ ?_;rintro k ⟨hk,hkj⟩ K2 J2;refine gl ?_;refine gC (fun t50=>?_) (fun t50=>?_)
 ·have hkn:=a6 t50;refine gc (OG l hl k hkn h6) ?_;refine gC (fun t57=>?_) (fun t57=>?_)
  ·have h7:=rI t57;refine af ?_;rw[e0',ed,eg hkn hkj h7]
  have h7:=pV t57;refine ga aO ?_;exact aP J2 (k+1) ⟨hkn,fun j h9=>by rcases W3 j k with g |g;exact hkj j g;(have:j=k:=by omega);subst this;exact h7⟩
 have hkn:=bi hk t50;subst hkn;refine af ?_;rw[e0',ed,nH hkj];rfl
theorem U7(l:Li)(hl:l.okw):FP 56 [l.av] (bl (ib l)):=by
 have hbl:=hl.lb;refine aj func56 ?_;refine gl ?_;refine aZ [1,8,9] [1] (fun(i:Nat)=>[(10,some (i64 i))]) (fun _=>[]) (fun i=>i<=l.bo.length/\(l.bo.take i).all oR=true) (fun i=>l.bo.length-i) 0 ⟨W7 _,rfl⟩ ?_;rintro i ⟨hi,hj⟩ K1 J1;refine gC (fun t11=>?_) (fun t11=>?_)
 ·have hin:=a6 t11;obtain⟨b,hb⟩:=ax hin;refine gi (aI hb) ?_;refine gl ?_;refine gC (fun t17=>?_) (fun t17=>?_)
  ·have h1:30<b.pts.length:=jl t17;refine af ?_;unfold ib;rw[lS hb (by unfold oR;rw[decide_eq_false oz];rfl)];rfl
  have h1:b.pts.length<=30:=g9 t17;refine gl ?_;refine aZ [1,8,9,10,19,20] [1] (fun(k:Nat)=>[(21,some (i64 k))]) (fun _=>[]) (fun k=>k<=b.pts.length/\(b.pts.take k).all lr=true) (fun k=>b.pts.length-k) 0 ⟨W7 _,rfl⟩ ?_;rintro k ⟨hk,hkj⟩ K2 J2;refine gC (fun t22=>?_) (fun t22=>?_)
  ·have hkn:=a6 t22;obtain⟨p,hp⟩:=ax hkn;refine gi (aI hp) ?_;refine gl ?_;refine cD ?_;refine cD ?_;refine cD ?_;refine gC (fun t50=>?_) (fun t50=>?_)
   ·have h2:lr p=false:=JM t50;refine af ?_;unfold ib;rw[lS hb (by unfold oR;rw[lS hp h2,Bool.and_false])];rfl
   have h2:lr p=true:=OU t50;refine ga aO ?_;exact aP J2 (k+1) ⟨hkn,mr hkj hp h2⟩
  have hkn:=bi hk t22;refine ga aO ?_;exact aP J1 (i+1) ⟨hin,mr hj hb (by unfold oR;rw[decide_eq_true h1,mf hkn hkj];rfl)⟩
 have hin:=bi hi t11;refine gl ?_;refine cD ?_;refine cD ?_;refine af ?_;exact congrArg bl (Vw (mf hin hj))
def kZ(r:Rt):Bool:=!(cond (cond (cond (aa .gtr (r.num.length:Int) 1) true (aa .gtr (r.den.length:Int) 1)) true (cond (aa .eql (r.num.length:Int) 1) (aa .gtr (ai r.num 0:Int) 400) false)) true
  (cond (aa .eql (r.den.length:Int) 1) (aa .gtr (ai r.den 0:Int) 20) false))
theorem Gl(rs:List Rt)(hl:rs.length<=1000):FP 197 [.lst 3 (rs.map Rt.av)] (bl (rs.all kZ)):=by
 refine aj func197 ?_;refine gl ?_;refine aZ [5,6] [] (fun(i:Nat)=>[(7,some (i64 i))]) (fun _=>[]) (fun i=>i<=rs.length/\(rs.take i).all kZ=true) (fun i=>rs.length-i) 0 ⟨W7 _,rfl⟩ ?_;rintro i ⟨hi,hj⟩ K1 J1;refine gC (fun t8=>?_) (fun t8=>?_)
 ·have hin:=a6 t8;obtain ⟨r,hr⟩:=ax hin;refine gi (aI hr) ?_;refine gl ?_;refine cD ?_;refine cD ?_;refine mb (fun ⟨h,h2⟩=>(cm (by have:=cK h2; have e:Int.toNat 0 = 0:=rfl; omega))) ?_;refine cD ?_;refine mb (fun ⟨h,h2⟩=>(cm (by have:=cK h2; have e:Int.toNat 0 = 0:=rfl; omega))) ?_;refine gC (fun t46=>?_) (fun t46=>?_)
  ·have h1:kZ r=false:=congrArg Bool.not t46;refine af ?_;rw[lS hr h1];rfl
  have h1:kZ r=true:=congrArg Bool.not t46;refine ga aO ?_;exact aP J1 (i+1) ⟨hin,mr hj hr h1⟩
 have hin:=bi hi t8;refine af ?_;rw[mf hin hj];rfl
def l0(x:Tn):Bool:=decide (x.t.num.length<=1/\x.t.den.length<=1)
def k9(m:Mk):Bool:=decide (m.x.num.length<=1/\m.x.den.length<=1/\m.y.num.length<=1/\m.y.den.length<=1)
def qK(xs:List Tn):Bool:=xs.all (fun x=>[x.t].all kZ)
def ss(ps:List Mk):Bool:=ps.all (fun p=>[p.x,p.y].all kZ)
def pv(l:Li):Bool:=l.bo.all (fun b=>ss b.pts)
theorem Np(l:Li)(hl:l.ok)(xs:List Tn)(hxl:xs.length<=281474976710656):FP 98 [l.av,.lst 4 (xs.map Tn.av)] (bl (qK xs&&pv l)):=by
 have hlb:=hl.lb;refine aj func98 ?_;refine gl ?_;refine aZ [2,11,12] [2] (fun(i:Nat)=>[(13,some (i64 i))]) (fun _=>[]) (fun i=>i<=xs.length/\(xs.take i).all (fun x=>[x.t].all kZ)=true) (fun i=>xs.length-i) 0 ⟨W7 _,rfl⟩ ?_;rintro i ⟨hi,hj⟩ K1 J1;refine gC (fun t14=>?_) (fun t14=>?_)
 ·have hin:=a6 t14;obtain ⟨x,hx⟩:=ax hin;refine gi (aI hx) ?_;refine gc (Gl [x.t] (by show 1 <= _; omega)) ?_;refine gC (fun t21=>?_) (fun t21=>?_)
  ·have h1:=df t21;refine af ?_;unfold qK;rw[lS hx h1];rfl
  have h1:=c9 t21;refine ga aO ?_;exact aP J1 (i+1) ⟨hin,mr hj hx h1⟩
 have hT:qK xs=true:=mf (bi hi t14) hj;refine gl ?_;refine aZ [2,24,25] [2] (fun(i:Nat)=>[(26,some (i64 i))]) (fun _=>[]) (fun i=>i<=l.bo.length/\(l.bo.take i).all (fun b=>ss b.pts)=true) (fun i=>l.bo.length-i) 0 ⟨W7 _,rfl⟩ ?_;rintro i ⟨hi2,hj2⟩ K2 J2;refine gC (fun t27=>?_) (fun t27=>?_)
 ·have hin:=a6 t27;obtain⟨b,hb⟩:=ax hin;have hbl:=(hl.bo b (WU hb)).ll;refine gi (aI hb) ?_;refine gl ?_;refine aZ [2,24,25,26,31,32] [2] (fun(k:Nat)=>[(33,some (i64 k))]) (fun _=>[]) (fun k=>k<=b.pts.length/\(b.pts.take k).all (fun p=>[p.x,p.y].all kZ)=true) (fun k=>b.pts.length-k) 0 ⟨W7 _,rfl⟩ ?_;rintro k ⟨hk,hkj⟩ K3 J3;refine gC (fun t34=>?_) (fun t34=>?_)
  ·have hkn:=a6 t34;obtain ⟨p,hp⟩:=ax hkn;refine gi (aI hp) ?_;refine gc (Gl [p.x,p.y] (by show 2 <= _; omega)) ?_;refine gC (fun t43=>?_) (fun t43=>?_)
   ·have h1:=df t43;refine af ?_;rw[hT];unfold pv;rw[lS hb (by unfold ss;exact lS hp h1)];rfl
   have h1:=c9 t43;refine ga aO ?_;exact aP J3 (k+1) ⟨hkn,mr hkj hp h1⟩
  have hP:ss b.pts=true:=mf (bi hk t34) hkj;refine ga aO ?_;exact aP J2 (i+1) ⟨hin,mr hj2 hb hP⟩
 have hL:pv l=true:=mf (bi hi2 t27) hj2;refine af ?_;rw[hT,hL];rfl
def Ak(l:Li)(xs:List Tn):Bool :=
  cond (cond (aa .neq (splitE l:Int) 0) true (aa .leq (((splitG l).length:Int)-l.dv.length) 1)) true (cond (aa .eql (((splitG l).length:Int)-l.dv.length) 2) (qK xs&&pv l) false)
def iG(l:Li)(xs:List Tn):Bool :=
  (ib l&&decide (xs.length<=20))&&(xs.all l0&&(l.bo.all (fun b=>b.pts.all k9)&&(if aG l=0 then Ak l xs else true)))
theorem RT{l:Li}{n:Nat}(h:cond (!ib l) true (aa .gtr (n:Int) 20)=true):(ib l&&decide (n<=20))=false:=by
 cases hb:ib l
 ·rfl
 ·rw[hb]at h;have h1:20<n:=jl (b:=20) h;rw[decide_eq_false oz];rfl
theorem On{l:Li}{n:Nat}(h:cond (!ib l) true (aa .gtr (n:Int) 20)=false):ib l=true/\n<=20:=by
 cases hb:ib l
 ·rw[hb]at h;cases h
 ·rw[hb]at h;exact⟨rfl,g9 (b:=20) h⟩
theorem CZ{x:Tn}:cond (aa .gtr (x.t.num.length:Int) 1) true (aa .gtr (x.t.den.length:Int) 1)=!l0 x:=by
 unfold l0;have e1:=kV (n:=x.t.num.length) (k:=1);have e2:=kV (n:=x.t.den.length) (k:=1);rw[iW];refine(congr (congrArg _ e1) e2).trans ?_;rw[<- Bool.decide_or,<- decide_not];exact decide_eq_decide.2 oz
theorem HU{m:Mk}:cond (cond (cond (aa .gtr (m.x.num.length:Int) 1) true (aa .gtr (m.x.den.length:Int) 1)) true (aa .gtr (m.y.num.length:Int) 1)) true (aa .gtr (m.y.den.length:Int) 1)=!k9 m:=by
 unfold k9;have e1:=kV (n:=m.x.num.length) (k:=1);have e2:=kV (n:=m.x.den.length) (k:=1);have e3:=kV (n:=m.y.num.length) (k:=1);have e4:=kV (n:=m.y.den.length) (k:=1);rw[iW,iW,iW];refine(congr (congrArg _ (congr (congrArg _ (congr (congrArg _ e1) e2)) e3)) e4).trans ?_;rw[<- Bool.decide_or,<- Bool.decide_or,<- Bool.decide_or,<- decide_not];exact decide_eq_decide.2 oz
theorem rW{l:Li}(hl:aG l=0):(splitG l).length<=8:=by
 unfold splitG;split
 ·exact(qB hl).2
 ·exact W7 _
theorem L1(l:Li)(hw:l.okw)(xs:List Tn)(hxl:xs.length<=281474976710656):FP 32 [l.av,.lst 4 (xs.map Tn.av)] (bl (iG l xs)):=by
 refine aj func32 ?_;refine gc (U7 l hw) ?_;refine cD ?_;refine gC (fun t21=>?_) (fun t21=>?_)
 ·have h1:=RT t21;refine af ?_;unfold iG;rw[h1];rfl
 obtain⟨g1,g2⟩:=On t21;have hl:=wl g1 hw;have hlb:=hl.lb;refine gl ?_;refine aZ [1,2,22,23] [2] (fun(i:Nat)=>[(24,some (i64 i))]) (fun _=>[]) (fun i=>i<=xs.length/\(xs.take i).all l0=true) (fun i=>xs.length-i) 0 ⟨W7 _,rfl⟩ ?_;rintro i ⟨hi,hj⟩ K1 J1;refine gC (fun t25=>?_) (fun t25=>?_)
 ·have hin:=a6 t25;obtain⟨x,hx⟩:=ax hin;refine gi (aI hx) ?_;refine gl ?_;refine cD ?_;refine gC (fun t39=>?_) (fun t39=>?_)
  ·have h1 : l0 x = false := by rw [CZ] at t39; exact df t39
   refine af ?_;unfold iG;rw[g1,decide_eq_true g2,lS hx h1];rfl
  have h1:l0 x=true:=by rw[CZ]at t39;exact c9 t39
  refine ga aO ?_;exact aP J1 (i+1) ⟨hin,mr hj hx h1⟩
 have hT:xs.all l0=true:=mf (bi hi t25) hj;refine gl ?_;refine aZ [1,2,42,43] [2] (fun(i:Nat)=>[(44,some (i64 i))]) (fun _=>[]) (fun i=>i<=l.bo.length/\(l.bo.take i).all (fun b=>b.pts.all k9)=true) (fun i=>l.bo.length-i) 0 ⟨W7 _,rfl⟩ ?_;rintro i ⟨hi2,hj2⟩ K2 J2;refine gC (fun t45=>?_) (fun t45=>?_)
 ·have hin:=a6 t45;obtain⟨b,hb⟩:=ax hin;have hbl:=(hl.bo b (WU hb)).ll;refine gi (aI hb) ?_;refine gl ?_;refine aZ [1,2,42,43,44,49,50] [2] (fun(k:Nat)=>[(51,some (i64 k))]) (fun _=>[]) (fun k=>k<=b.pts.length/\(b.pts.take k).all k9=true) (fun k=>b.pts.length-k) 0 ⟨W7 _,rfl⟩ ?_;rintro k ⟨hk,hkj⟩ K3 J3;refine gC (fun t52=>?_) (fun t52=>?_)
  ·have hkn:=a6 t52;obtain⟨p,hp⟩:=ax hkn;refine gi (aI hp) ?_;refine gl ?_;refine cD ?_;refine cD ?_;refine cD ?_;refine gC (fun t80=>?_) (fun t80=>?_)
   ·have h1 : k9 p = false := by rw [HU] at t80; exact df t80
    refine af ?_;unfold iG;rw[g1,decide_eq_true g2,hT,lS hb (lS hp h1)];rfl
   have h1:k9 p=true:=by rw[HU]at t80;exact c9 t80
   refine ga aO ?_;exact aP J3 (k+1) ⟨hkn,mr hkj hp h1⟩
  have hP:b.pts.all k9=true:=mf (bi hk t52) hkj;refine ga aO ?_;exact aP J2 (i+1) ⟨hin,mr hj2 hb hP⟩
 have hL:l.bo.all (fun b=>b.pts.all k9)=true:=mf (bi hi2 t45) hj2;refine gc (Gn l hl) ?_;refine gC (fun t85=>?_) (fun t85=>?_)
 ·have h1:=rI t85;refine af ?_;unfold iG;rw[g1,decide_eq_true g2,hT,hL,XJ h1];rfl
 have h1:=pV t85;have hsl:=rW h1;have hld:=hl.ld;refine gc (C1 l hl h1) ?_;refine gl ?_;refine gl ?_;refine ga (ee oz) ?_;refine b9 (fun _=>(Np l hl xs hxl)) ?_;refine af ?_;unfold iG Ak;rw[g1,decide_eq_true g2,hT,hL,XK h1];rfl
section
variable{l:Li}{xs:List Tn}{s g:Nat}(W:WkC l xs s g){k:Nat}{gr:Gr}(hg:(splitG l)[k]?=some gr){j r E:Nat}{a:Aq}(Q:QInv l j r E a){n y:Nat}(ok:ek s g (n+1) y j r E=true)(hy:gr.kind≠0->0<y)
include W hg Q ok hy
theorem Ke:∃F,F<=20000000000/\ta F l k a.as false/\AB a.as/\(Lw.llq a.as.rs).length<=2/\(gr.kind≠0->F=3900000/\DyS a.as):=by
 obtain⟨⟨hE,hr,hj⟩,_⟩:=sa ok;have h3:(Lw.llq a.as.rs).length<=2:=by rw[a.llq];have:=Q.lv;omega
 have al:=Q.ab W.li (by omega:E<=50000000000) hr
 by_cases hk:gr.kind=0
 ·exact⟨E,hE,Q.sma oz (WZ _) k false,al,h3,fun h=>absurd hk h⟩
 ·have hy:=hy hk;obtain ⟨y',rfl⟩:∃ y',y = y' + 1:=⟨y - 1,by omega⟩
  obtain⟨⟨hj,hE,hr,hX,hJ⟩,_⟩:=q7 ok;exact⟨3900000,by omega,Q.sma oz hE k false,al,h3,fun _=>⟨rfl,QInv.dyS W hg Q hr hj⟩⟩
theorem O5:wM l k (bZ gr xs) a.as=((ez l a.as gr (bZ gr xs)).map Sv.av,lV l a.as gr (bZ gr xs)):=by
 have _:=ok;have _:=hy;unfold wM;have hgA:ik l (k:Nat)=gr:=au hg;rw[XK (Q.dy0 W.li W.sp hg false),hgA];exact Prod.ext (Ol _ _ _ _) rfl
theorem Wx:FP 18 [l.av,i64 k,(bZ gr xs).av,a.av] (.tup [.lst 3 ((ez l a.as gr (bZ gr xs)).map Sv.av),bq (lV l a.as gr (bZ gr xs))]):=by
 obtain⟨F,hF,hs,al,h3,hR⟩:=Ke W hg Q ok hy;have hgA:ik l (k:Nat)=gr:=au hg;have h:=O0 l W.hl k (W.tn hg).1 (W.tn hg).2.1 a.as al (fun _=>h3) hF hs (fun _ h=>hR (by rw[hgA]at h;exact h));rw[O5 W hg Q ok hy,a.as_av]at h;exact h
theorem D9:∃y' j' r' E',ek s g n y' j' r' E'=true/\(y'+(if gr.kind≠0 then 1 else 0)=y)/\∀sv∈ez l a.as gr (bZ gr xs),QInv l j' r' E' (a.nxt gr sv):=by
 by_cases hk:gr.kind=0
 ·exact⟨y,j,r,_,(sa ok).2,by simp[hk],Q.drv W hg ok hk⟩
 ·have hy:=hy hk;obtain ⟨y',rfl⟩:∃ y',y = y' + 1:=⟨y - 1,by omega⟩
  exact⟨y',j+1,_,_,(q7 ok).2,by simp[hk],Q.dy W hg ok hk⟩
end
def kz(g:Gr):Bool:=decide (g.kind≠0)
theorem FI{F:Int->Bool}{sg:Bool}{f:Sv->List Aq×Nat}{M:Nat}:∀{S:List Sv},(∀s∈S,(f s).1.length<=M)->(fx F sg f S).1.length<=S.length*M
 |[],h=>W7 _
 |s::S,h=>by
  have h1:=h s Xv;have h2:=FI (F:=F) (sg:=sg) (S:=S) (fun x hx=>h x (Xw _ hx));rw[qQ,W9,Nat.succ_mul];split
  ·omega
  ·split
   ·omega
   ·split
    ·omega
    ·simp only[Xo];omega
structure WkSt(l:Li)(s g n:Nat)(a:Aq):Prop where
  st:∃j r E y,QInv l j r E a/\ek s g n y j r E=true/\((splitG l).drop a.ms.length).countP kz<=y
  ln:a.ms.length+n=(splitG l).length
theorem WkSt.next{l:Li}{xs:List Tn}{s g n:Nat}(W:WkC l xs s g){a:Aq}(h:WkSt l s g (n+1) a):∃gr,(splitG l)[a.ms.length]?=some gr /\
  FP 18 [l.av,i64 a.ms.length,(bZ gr xs).av,a.av] (.tup [.lst 3 ((ez l a.as gr (bZ gr xs)).map Sv.av),bq (lV l a.as gr (bZ gr xs))]) /\
  SolP (ez l a.as gr (bZ gr xs)) gr.kind a.ts.length gr.bo.length/\∀sv∈ez l a.as gr (bZ gr xs),WkSt l s g n (a.nxt gr sv):=by
 obtain⟨⟨j,r,E,y,Q,ok,hc⟩,hl⟩:=h;obtain⟨gr,hg⟩:=ax (l:=splitG l) (i:=a.ms.length) oz;have hdr:=p6 hg;rw[hdr,List.countP_cons]at hc
 have hy:gr.kind≠0->0<y:=fun hk=>by
  have:kz gr=true:=decide_eq_true hk;rw[XK this]at hc;omega
 obtain⟨y',j',r',E',ok',ey,hQ⟩:=D9 W hg Q ok hy;refine⟨gr,hg,Wx W hg Q ok hy,WB W hg Q ok hy,fun sv hsv=>⟨⟨j',r',E',y',hQ sv hsv,ok',?_⟩,?_⟩⟩
 ·have e : (a.nxt gr sv).ms.length = a.ms.length + 1 := by show (a.ms ++ [sv.mode]).length = _; simp
  rw[e]
  by_cases hk:gr.kind=0
  ·have h1 : kz gr = false := by unfold kz; simp [hk]
   simp only[hk,ne_eq,not_true_eq_false,if_false]at ey;rw[h1]at hc;simp only[Bool.false_eq_true,if_false]at hc;omega
  ·have h1:kz gr=true:=decide_eq_true hk;rw[XK hk]at ey;rw[XK h1]at hc;omega
 ·show(a.ms++[sv.mode]).length+n=_;rw[Xo];simp only[W9,Xi];omega
theorem yx{l:Li}{xs:List Tn}{s g:Nat}(W:WkC l xs s g)(F:Nat->Int->Bool)(sg:Bool):∀(n:Nat)(a:Aq),WkSt l s g n a->(fM F sg l xs (splitG l) n a).1.length<=2^n
 |0,a,h=>WZ _
 |n+1,a,h=>by
  obtain⟨gr,hg,_,hP,hn⟩:=h.next W;unfold fM;rw[au hg];split
  ·exact W7 _
  ·have h1:=FI (F:=F a.ms.length) (sg:=sg) (f:=fun sv=>fM F sg l xs (splitG l) n (a.nxt gr sv)) (M:=2^n) (S:=ez l a.as gr (bZ gr xs)) (fun sv hsv=>yx W F sg n _ (hn sv hsv));have h2:=Xn (2^n) hP.two;rw[Nat.pow_succ];omega
theorem yP{l:Li}{xs:List Tn}{s g:Nat}(W:WkC l xs s g)(F:Nat->Int->Bool)(sg:Bool){fo:FuncId}{caps:List AV}(hF:∀(k:Nat)(m:Int),k<(splitG l).length->FP fo ([i64 k,i64 m]++caps) (bl (F k m))) :
  ∀(n:Nat)(a:Aq),WkSt l s g n a->∀o:List Aq,o.length+2^n<=1000 ->
   Con prog 100 [.ptr 1000 0,a.av] (ff l xs (splitG l) fo caps sg 1001 (o.map Aq.av)) (bq (fM F sg l xs (splitG l) n a).2) (ff l xs (splitG l) fo caps sg 900 ((o++(fM F sg l xs (splitG l) n a).1).map Aq.av))
 |0,a,h,o,ho=>by
  have hG:(splitG l).length<=100:=by have:=rW W.li;omega
  obtain⟨⟨j,r,E,y,Q,ok,_⟩,hl⟩:=h;obtain⟨hE,_,_⟩:=JK ok;have hlb:=(cU W.li).2.2.2.1;have hln:=Q.ln;have h3:=Q.tw.three;obtain⟨D,N,hD,hts,h1,h2⟩:=Q.tw.rb
  exact MZ oz hG oz (Jz (e:=5000000000+E) Q.tw.five (fun x hx=>by
   obtain⟨i,hi⟩:=XC hx;have hi2:=(List.getElem?_eq_some_iff.1 hi).1;have h9:=Q.tw.len i hi2;rw[au hi]at h9;exact⟨Q.tw.five,.inr ⟨i,by omega,h9⟩,D,N,hts x hx,Xj h1 (cQ (by have:=Q.tw.le;omega)),Xj h2 (cQ (by have:=Q.tw.le;omega))⟩)
   (fun p hp=>(Q.bs p hp).up (WZ _) Q.tw.five oz) oz oz oz oz)
 |n+1,a,h,o,ho=>by
  have hG:(splitG l).length<=100:=by have:=rW W.li;omega
  have hlb:=(cU W.li).2.2.2.1;have hln:=h.ln;obtain⟨j,r,E,y,Q,ok,_⟩:=h.st;obtain⟨gr,hg,hS,hP,hn⟩:=h.next W;obtain⟨hdy,hgo⟩:=jK W.li (WU hg);have h2:=rD W.li;have hxl:=W.ln;have hQl:=Q.ln;have hgb:=hgo.lb
  have key := Wq (l := l) (xs := xs) (G := splitG l) (fo := fo) (caps := caps) (sg := sg) (o := o) hg hG oz (fun hk => by rw [hxl]; exact Au hdy hk) hS (by have := hP.two; omega) (F := F a.ms.length) (fun m => hF _ m oz)
   (fun sv hsv => Nf (fun b hb => by rw [hQl]; exact hgo.b b hb) (by
    obtain⟨i,hi⟩:=XC hsv;exact(hP.md i sv hi).2.2) oz oz oz)
   (f:=fun sv=>fM F sg l xs (splitG l) n (a.nxt gr sv)) (M:=2^n) (B:=1000) (fun sv hsv=>yx W F sg n _ (hn sv hsv)) (by have:=Xn (2^n) hP.two;rw[Nat.pow_succ]at ho;omega)
   (fun o' ho' sv hsv=>yP W F sg hF n _ (hn sv hsv) o' ho')
  have e:fM F sg l xs (splitG l) (n+1) a=(if lV l a.as gr (bZ gr xs)≠0 then([],lV l a.as gr (bZ gr xs))else fx (F a.ms.length) sg (fun sv=>fM F sg l xs (splitG l) n (a.nxt gr sv)) (ez l a.as gr (bZ gr xs))):=by
   conv=>lhs;unfold fM
   rw[au hg]
  rw[e]
  by_cases hE:lV l a.as gr (bZ gr xs)≠0
  ·rw[XK hE]at key ⊢;rw[XK hE]at key;exact key
  ·rw[XJ hE]at key ⊢;rw[XJ hE]at key;exact key
abbrev qO(l:Li)(xs:List Tn)(G:List Gr)(fo:FuncId)(caps:List AV)(sg:Bool)(k0 k:Nat)(es:List AV):Hp :=
  [(k0,some (.box (fy l xs G fo caps sg (.ms k 3 0 es.length)))),(k,some (.row 3 es))]
def xf(k:Nat):Nat:=bif Nat.beq k 1000 then 902 else bif Nat.beq k 902 then 1000 else qV k
theorem vU{a b:Nat}(h:¬a=b):Nat.beq a b=false:=by
 cases h1:Nat.beq a b
 ·rfl
 ·exact absurd (W5 h1) h
theorem Dp(k:Nat):xf (xf k)=k:=by
 by_cases h1:k=1000
 ·subst h1;rfl
 by_cases h2:k=902
 ·subst h2;rfl
 by_cases h3:k=1001
 ·subst h3;rfl
 by_cases h4:k=901
 ·subst h4;rfl
 have e:xf k=k:=by simp only[xf,qV,vU h1,vU h2,vU h3,vU h4,cond_false]
 rw[e,e]
theorem EK{l:Li}{xs:List Tn}{G:List Gr}{fo:FuncId}{caps:List AV}{sg:Bool}{es:List AV}(h0:0<l.bo.length)(hl:l.bo.length<=100) :
  Con prog 101 [.ptr 902 0] (qO l xs G fo caps sg 902 901 es) (eG l).av (qO l xs G fo caps sg 902 901 es):=Con.pm Dp (PS h0 hl)
theorem FG{l:Li}{xs:List Tn}{G:List Gr}{fo:FuncId}{caps:List AV}{sg:Bool}{es es':List AV}{a:Aq}{e:Nat}
  (h:Con prog 100 [.ptr 1000 0,a.av] (ff l xs G fo caps sg 1001 es) (bq e) (ff l xs G fo caps sg 900 es')) :
  Con prog 100 [.ptr 902 0,a.av] (qO l xs G fo caps sg 902 901 es) (bq e) (qO l xs G fo caps sg 902 900 es'):=Con.pm Dp h
def gI:Nat->Int->Bool:=fun _ _=>true
def lh(F:Nat->Int->Bool)(sg:Bool)(l:Li)(xs:List Tn):List Aq×Nat:=fM F sg l xs (splitG l) (splitG l).length (eG l)
def hO(l:Li)(xs:List Tn):List Aq×Nat:=if cI l xs≠0 then([],cI l xs)else if(lh gI false l xs).2≠0 then([],(lh gI false l xs).2)else lh gI false l xs
theorem S0{l:Li}{xs:List Tn}(h0:cI l xs≠0)(hop:Con prog 99 [l.av,.lst 4 (xs.map Tn.av)] [] (.tup [re (cI l xs),bq (cI l xs)]) (tK (cI l xs) l xs)) :
  FP 33 [l.av,.lst 4 (xs.map Tn.av)] (.tup [.lst 3 [],bq (cI l xs)]):=by
 rw[k8 h0,wj h0]at hop;refine aj func33 ?_;refine gc hop ?_;refine gC (fun t16=>?_) (fun t16=>?_) (st2:=(77777,0))
 ·refine gR ?_;exact dZ (Sub.tup (.cons (.nil _ _ _) (.cons (.refl _) .nil)))
 exact absurd (cZ t16) h0
theorem O7{l:Li}{xs:List Tn}(h0:cI l xs=0)(hop:Con prog 99 [l.av,.lst 4 (xs.map Tn.av)] [] (.tup [re (cI l xs),bq (cI l xs)]) (tK (cI l xs) l xs))(hb:0<l.bo.length)(hl:l.bo.length<=100)
  {R:List Aq×Nat} (hw:Con prog 100 [.ptr 1000 0,(eG l).av] (ff l xs (splitG l) 198 [] false 1001 []) (bq R.2) (ff l xs (splitG l) 198 [] false 900 (R.1.map Aq.av))) :
  FP 33 [l.av,.lst 4 (xs.map Tn.av)] (.tup [.lst 3 ((if R.2≠0 then[]else R.1).map Aq.av),bq R.2]):=by
 rw[h0]at hop;have hop:Con prog 99 [l.av,.lst 4 (xs.map Tn.av)] [] (.tup [.ptr 900 0,.v .nilIface]) [(900,some (.box (fy l xs (splitG l) 198 [] false (nS))))]:=hop;refine aj func33 ?_;refine gt (aE hop (bD rfl rfl) aH rfl rfl) ?_;refine gC (fun t16=>?_) (fun t16=>?_) (st1:=(3,0)) (st2:=(77777,0));cases t16;refine gW (Wk.o (sl:=[(6,some (.ptr 900 0))]) (hp:=[(900,some (.box (fy l xs (splitG l) 198 [] false (nS))))])) ?_ (77777,0);refine gW (Wk.rk (k:=900) (d:=902) rfl rfl) ?_ (77777,0);refine gW (Wk.virt 901 3 rfl) ?_ (77777,0);refine gW (Wk.of (sl:=[(6,some (.ptr 902 0))]) (hp:=qO l xs (splitG l) 198 [] false 902 901 []) (.k .nil) (.cons rfl (BlkSub.bL (.cons (.refl _) (.cons (.refl _) (.cons (.refl _) (.cons (.refl _) (.cons (.refl _) (.cons (.refl _) (.cons (.refl _) (.cons (.refl _) (.cons (Sub.nM _ _ _) .nil))))))))) rfl) (.k .nil))) ?_;refine gt (BB (EK hb hl) (cC rfl) rfl rfl rfl rfl rfl) ?_;refine gt (aE (FG hw) (bD rfl rfl) aH rfl rfl) ?_;refine gC (fun t23=>?_) (fun t23=>?_) (st2:=(77777,0))
 ·have hE:=dl t23;refine gR ?_;exact dZ (by rw[XK hE];exact Sub.tup (.cons (.nil _ _ _) (.cons (.refl _) .nil)))
 have hE:=cZ t23;refine gW ((Wk.freeze (k:=900) rfl).trans<|Wk.of (sl:=[(6,some (.ptr 902 0))]) (hp:=[(902,some (.box (fy l xs (splitG l) 198 [] false (.lst 3 (R.1.map Aq.av)))))]) a8 (.cons rfl (BlkSub.bL (.cons (.refl _) (.cons (.refl _) (.cons (.refl _) (.cons (.refl _) (.cons (.refl _) (.cons (.refl _) (.cons (.refl _) (.cons (.refl _) (.cons (Sub.of (bV rfl)) .nil))))))))) rfl) .nil)) ?_;refine gR ?_;exact dZ (Sub.of (by rw[XJ oz,hE];rfl))
def CD(modes:List Int):Nat->Int->Bool:=fun k m=>decide (m=modes.getD k 0)
theorem SA{l:Li}{xs:List Tn}{modes:List Int}(hml:modes.length<=100)(h0:cI l xs=0)(hop:Con prog 99 [l.av,.lst 4 (xs.map Tn.av)] [] (.tup [re (cI l xs),bq (cI l xs)]) (tK (cI l xs) l xs))(hb:0<l.bo.length)(hl:l.bo.length<=100)(hsl:(splitG l).length<=100)
  {R:List Aq×Nat} (hw:modes.length=(splitG l).length->Con prog 100 [.ptr 1000 0,(eG l).av] (ff l xs (splitG l) 223 [.iptr [.lst 1 (modes.map i64)]] true 1001 []) (bq R.2) (ff l xs (splitG l) 223 [.iptr [.lst 1 (modes.map i64)]] true 900 (R.1.map Aq.av))) (hR:R.1.length<=1000) :
  FP 109 [l.av,.lst 4 (xs.map Tn.av),.lst 1 (modes.map i64)] (.tup [(if modes.length≠(splitG l).length then Aq.mk [] [] []else if R.2≠0 then Aq.mk [] [] []else R.1.getD 0 (Aq.mk [] [] [])).av,bq (if modes.length≠(splitG l).length then 10 else if R.2≠0 then R.2 else if R.1=[]then 16 else 0)]):=by
 rw[h0]at hop;have hop:Con prog 99 [l.av,.lst 4 (xs.map Tn.av)] [] (.tup [.ptr 900 0,.v .nilIface]) [(900,some (.box (fy l xs (splitG l) 198 [] false (nS))))]:=hop;refine aj func109 ?_;refine gt (aE hop (bD rfl rfl) aH rfl rfl) ?_;refine gC (fun t18=>?_) (fun t18=>?_) (st1:=(3,0)) (st2:=(77777,0));cases t18;refine gW (Wk.o (sl:=[(5,some (.ptr 5 0)),(6,some (.ptr 6 0)),(8,some (.ptr 900 0))]) (hp:=[(5,some (.box [.lst 1 (modes.map i64)])),(6,some (.box [nS,nS,nS])),(900,some (.box (fy l xs (splitG l) 198 [] false (nS))))])) ?_ (77777,0);refine gW (Wk.rk (k:=900) (d:=902) rfl rfl) ?_;refine gl ?_;refine gl ?_;refine gD ?_;refine gC (fun t28=>?_) (fun t28=>?_) (st2:=(77777,0))
 ·have h1:=AE t28;refine gR ?_;exact dZ (by rw[XK h1,XK h1];exact Sub.tup (.cons (Sub.agg (.cons (.nil _ _ _) (.cons (.nil _ _ _) (.cons (.nil _ _ _) .nil))) rfl) (.cons (.refl _) .nil)))
 have h1:=zw t28;have hm:¬(modes.length≠(splitG l).length):=fun h=>h h1
 refine gW ((Wk.freezeB (k:=5) rfl rfl).trans<|Wk.o (sl:=[(5,some (.iptr [.lst 1 (modes.map i64)])),(6,some (.ptr 6 0)),(8,some (.ptr 902 0))]) (hp:=[(6,some (.box [nS,nS,nS])),(902,some (.box (fy l xs (splitG l) 198 [] false (nS))))])) ?_ (7,0);refine gW (Wk.of (sl:=[(6,some (.ptr 6 0)),(8,some (.ptr 902 0))]) (hp:=[(6,some (.box [nS,nS,nS])),(902,some (.box (fy l xs (splitG l) 223 [.iptr [.lst 1 (modes.map i64)]] true (nS))))]) a8 (.k (.cons rfl (BlkSub.bL (.cons (.refl _) (.cons (.refl _) (.cons (.refl _) (.cons (.refl _) (.cons (.refl _) (.cons (.refl _) (.cons (rE rfl) (.cons (.refl _) (.cons (.refl _) .nil))))))))) rfl) .nil))) ?_ (7,0)
 refine gW (Wk.virt 901 3 rfl) ?_ (7,0);refine gW (Wk.of (sl:=[(6,some (.ptr 6 0)),(8,some (.ptr 902 0))]) (hp:=(6,some (.box [nS,nS,nS]))::qO l xs (splitG l) 223 [.iptr [.lst 1 (modes.map i64)]] true 902 901 []) (.k (.k .nil)) (.k (.cons rfl (BlkSub.bL (.cons (.refl _) (.cons (.refl _) (.cons (.refl _) (.cons (.refl _) (.cons (.refl _) (.cons (.refl _) (.cons (.refl _) (.cons (.refl _) (.cons (Sub.nM _ _ _) .nil))))))))) rfl) (.k .nil)))) ?_
 refine gt (BB (EK hb hl) (cC rfl) rfl rfl rfl rfl rfl) ?_;refine gt (aE (FG (hw h1)) (bD rfl rfl) aH rfl rfl) ?_;refine gC (fun t43=>?_) (fun t43=>?_) (st2:=(77777,0))
 ·have hE:=dl t43;refine gR ?_;exact dZ (by rw[XJ hm,XJ hm,XK hE,XK hE];exact Sub.tup (.cons (Sub.agg (.cons (.nil _ _ _) (.cons (.nil _ _ _) (.cons (.nil _ _ _) .nil))) rfl) (.cons (.refl _) .nil)))
 have hE:=cZ t43;have hE':¬(R.2≠0):=fun h=>h hE
 refine gW ((Wk.freeze (k:=900) rfl).trans<|Wk.of (sl:=[(6,some (.ptr 6 0)),(8,some (.ptr 902 0))]) (hp:=[(6,some (.box [nS,nS,nS])),(902,some (.box (fy l xs (splitG l) 223 [.iptr [.lst 1 (modes.map i64)]] true (.lst 3 (R.1.map Aq.av)))))]) a8 (.k (.cons rfl (BlkSub.bL (.cons (.refl _) (.cons (.refl _) (.cons (.refl _) (.cons (.refl _) (.cons (.refl _) (.cons (.refl _) (.cons (.refl _) (.cons (.refl _) (.cons (Sub.of (bV rfl)) .nil))))))))) rfl) .nil))) ?_
 refine gl ?_;refine gC (fun t51=>?_) (fun t51=>?_)
 ·have h2 : R.1=[] := List.length_eq_zero_iff.1 (by simpa[aa]using t51);refine gR ?_;exact dZ (by rw[XJ hm,XJ hm,XJ hE',XJ hE',XK h2,h2];exact Sub.tup (.cons (Sub.agg (.cons (.nil _ _ _) (.cons (.nil _ _ _) (.cons (.nil _ _ _) .nil))) rfl) (.cons (.refl _) .nil)))
 have h2:R.1≠[]:=fun h=>by rw[h]at t51;exact absurd t51 (by simp[aa])
 obtain⟨a0,ha0⟩:=ax (l:=R.1) (i:=0) (by cases hh:R.1 with |nil=>exact absurd hh h2 |cons _ _=>simp);refine gi (aI ha0) ?_;refine gR ?_;exact dZ (Sub.of (by rw[XJ hm,XJ hm,XJ hE',XJ hE',XJ h2,au ha0];rfl))
theorem Rt.qbV{r:Rt}{e:Nat}(h:r.ok)(he:1<=e)(hn:val r.num<2^e)(hd:val r.den<2^e):Qb e r.q:=by
 by_cases h0:r.valid=true/\r.num≠[]
 ·obtain⟨h1,h2,h3,h4,h5,h6⟩:=Rt.parts h h0.1 h0.2;refine⟨?_,?_⟩
  ·have : r.q.num.natAbs = val r.num := by rw [h1]; unfold sgn; split <;> omega
   rw[this];exact hn
  ·rw[h2];exact hd
 ·rw[Rt.zero h0];exact Qb.zero.mono he
theorem Jq{l:List Nat}{b e:Nat}(h:¬1<l.length)(hb:l.length=1->ai l 0<=b)(he:b<2^e):val l<2^e:=by
 match l with
 |[]=>exact Xm (W7 b) he
 |[x] =>
  have h1:x<=b:=hb rfl;have h2:val [x]=x:=by simp[val]
  rw[h2];omega
 |_::_::_=>simp at h
theorem yg{r:Rt}(h:r.ok)(hl:kZ r=true):Qb 9 r.q:=by
 unfold kZ at hl;rw[iW,iW,iW,Bool.not_eq_true',Bool.or_eq_false_iff,Bool.or_eq_false_iff,Bool.or_eq_false_iff]at hl;obtain⟨⟨⟨h1,h2⟩,h3⟩,h4⟩:=hl;have g1:r.num.length<=1:=g9 (b:=1) h1;have g2:r.den.length<=1:=g9 (b:=1) h2;refine Rt.qbV h oz (Jq (b:=400) oz (fun hh=>?_) (by decide)) (Jq (b:=20) oz (fun hh=>?_) (by decide))
 ·rw[hh]at h3;exact g9 (b:=400) h3
 ·rw[hh]at h4;exact g9 (b:=20) h4
theorem Vo{l:Li}{xs:List Tn}(h:cI l xs=0):aG l=0/\splitE l=0/\xs.length=l.dv.length/\∀x∈xs,x.err=0:=by
 unfold cI at h;split at h
 ·rename_i h1;exact absurd h h1
 ·rename_i h1;have h1:=Decidable.not_not.1 h1;unfold sW at h;split at h
  ·rename_i h2;exact absurd h h2
  ·rename_i h2;have h2:=Decidable.not_not.1 h2;split at h
   ·cases h
   ·rename_i h3;exact⟨h1,h2,Decidable.not_not.1 h3,fun x hx=>nT h _ (List.mem_map.2 ⟨x,hx,rfl⟩)⟩
theorem Tc(gs:List Gr):gs.countP kz+gs.countP (fun g=>decide (g.kind=0))=gs.length:=by
 induction gs with
 |nil=>rfl
 |cons g gs ih =>
  rw[List.countP_cons,List.countP_cons,W9]
  by_cases hk:g.kind=0
  ·have h1 : kz g = false := by unfold kz; simp [hk]
   rw[h1];simp only[hk,decide_true,Bool.false_eq_true,if_false,if_true];omega
  ·have h1:kz g=true:=decide_eq_true hk;rw[h1];simp only[hk,decide_false,Bool.false_eq_true,if_false,if_true];omega
theorem vF{s g:Nat}:∀{n m y y' j r E:Nat},ek s g n y j r E=true->m<=n->y'<=y->ek s g m y' j r E=true
 |n,0,y,y',j,r,E,h,hm,hy=>by
  have h1:=uO h;exact decide_eq_true h1
 |n+1,m+1,y,y',j,r,E,h,hm,hy=>by
  have h1:=sa h;unfold ek;simp only[W4,XE,decide_eq_true_eq];refine⟨uO h,vF h1.2 oz hy,?_⟩
  by_cases hz:y'=0
  ·exact .inl hz
  ·right;obtain ⟨y2,rfl⟩:∃ y2,y = y2 + 1:=⟨y - 1,by omega⟩
   have h2:=q7 h;exact⟨h2.1,vF h2.2 oz oz⟩
theorem tX{l:Li}{xs:List Tn}(hL:iG l xs=true)(hl:l.ok)(hxw:∀x∈xs,x.t.wok)(h0:cI l xs=0):∃s g,WkC l xs s g/\WkSt l s g (splitG l).length (eG l):=by
 obtain⟨hli,hsp,hln,hxe⟩:=Vo h0;unfold iG at hL;simp only[W4,decide_eq_true_eq]at hL;obtain⟨⟨_,_⟩,hT,hM,hR⟩:=hL;rw[Xx]at hT hM;rw[XK hli]at hR;unfold Ak at hR;rw[iW,iW,iO]at hR;have hdl:=Gp hli hsp;have hd2:=rD hli;have hcn:=Tc (splitG l)
 have hxo:∀x∈xs,x.t.ok/\Qb 32 x.t.q:=fun x hx=>by
  have h9:=hT x hx;unfold l0 at h9;rw[decide_eq_true_eq]at h9;have ho:=(hxw x hx).ok h9.1 h9.2 oz;exact⟨ho,(Rt.qb ho (k:=1) oz h9.1 h9.2).mono oz⟩
 have hstart:∀(s g n y:Nat),ek s g n y 0 0 2=true->(splitG l).length<=n->(splitG l).countP kz<=y->WkSt l s g (splitG l).length (eG l):=fun s g n y ok h1 h2 =>
  ⟨⟨0,0,2,y,CP l,vF ok h1 (WZ _),h2⟩,Nat.zero_add _⟩
 by_cases hn:(splitG l).length<=l.dv.length+1
 ·refine⟨32,134,⟨hl,hli,hsp,?_,hln,fun x hx=>?_⟩,hstart 32 134 3 1 Ea oz oz⟩
  ·intro b hb m hm;have h9:=hM b hb;rw[Xx]at h9;have h8:=h9 m hm;unfold k9 at h8;rw[decide_eq_true_eq]at h8;have ho:=(hl.bo b hb).pts m hm;exact⟨(Rt.qb ho.x (k:=1) oz h8.1 h8.2.1).mono oz,(Rt.qb ho.y (k:=1) oz h8.2.2.1 h8.2.2.2).mono oz⟩
  ·obtain⟨h1,h2⟩:=hxo x hx;exact⟨h1,hxe x hx,h2.mono oz,Cb.one (nQ h2),Cb.one (ow h2)⟩
 ·have hlow:(splitG l).length=l.dv.length+2/\qK xs=true/\pv l=true:=by
   simp only[XE,W4]at hR;rcases hR with(h9 |h9) |⟨h9,h8⟩
   ·rw[hsp]at h9;exact absurd h9 (by simp[aa])
   ·have : ((splitG l).length : Int) - l.dv.length <= 1 := by simpa [aa] using h9
    omega
   ·have : ((splitG l).length : Int) - l.dv.length = 2 := by simpa [aa] using h9
    exact⟨by omega,h8.1,h8.2⟩
  obtain⟨hlen,hlT,hlL⟩:=hlow;refine⟨9,42,⟨hl,hli,hsp,?_,hln,fun x hx=>?_⟩,hstart 9 42 4 2 ML oz oz⟩
  ·intro b hb m hm;unfold pv at hlL;rw[Xx]at hlL;have h9:=hlL b hb;unfold ss at h9;rw[Xx]at h9;have h8:=h9 m hm;simp only[List.all_cons,List.all_nil,Bool.and_true,W4]at h8;have ho:=(hl.bo b hb).pts m hm;exact⟨yg ho.x h8.1,yg ho.y h8.2⟩
  ·obtain⟨h1,h2⟩:=hxo x hx;unfold qK at hlT;rw[Xx]at hlT;have h8:=hlT x hx;simp only[List.all_cons,List.all_nil,Bool.and_true]at h8;have h9:=yg h1 h8;exact⟨h1,hxe x hx,h2.mono oz,Cb.one (nQ h9),Cb.one (ow h9)⟩
structure SameJ(l' l:Li):Prop where
  j:l'.jo=l.jo
  d:l'.dv=l.dv
  b:l'.bo.length=l.bo.length
section
variable{l' l:Li}(h:SameJ l' l)
include h
theorem SameJ.jointI(kind body:Int)(oth:List Bool):jointI l' kind body oth=jointI l kind body oth:=by unfold Lw.jointI;rw[h.j]
theorem SameJ.freeB(k:List Bool)(i:Int):freeB l' k i=freeB l k i:=by unfold Lw.freeB my;rw[h.d]
theorem SameJ.drHit(k:List Bool)(i:Nat):drHit l' k i=drHit l k i:=by unfold Lw.drHit;simp only[h.d,h.jointI]
theorem SameJ.driverG(k:List Bool):driverG l' k=driverG l k:=by unfold Lw.driverG;simp only[h.d,h.jointI,h.drHit]
theorem SameJ.prHit(k:List Bool)(i j:Nat):prHit l' k i j=prHit l k i j:=by unfold Lw.prHit;simp only[h.freeB,h.jointI,h.b]
theorem SameJ.prAt(k:List Bool)(i:Nat):prAt l' k i=prAt l k i:=by unfold Lw.prAt;simp only[h.prHit,h.b]
theorem SameJ.prG(k:List Bool)(i j:Nat):prG l' k i j=prG l k i j:=by unfold Lw.prG;simp only[h.jointI,h.b]
theorem SameJ.pairG(k:List Bool):pairG l' k=pairG l k:=by unfold Lw.pairG;simp only[h.prAt,h.prG,h.b]
theorem SameJ.sgHit(k:List Bool)(i:Nat):sgHit l' k i=sgHit l k i:=by unfold Lw.sgHit;simp only[h.freeB,h.jointI]
theorem SameJ.sgG(k:List Bool)(i:Nat):sgG l' k i=sgG l k i:=by unfold Lw.sgG;simp only[h.jointI,h.j]
theorem SameJ.singleG(k:List Bool):singleG l' k=singleG l k:=by
 unfold Lw.singleG;have e:Lw.sgG l' k=Lw.sgG l k:=funext (h.sgG k);simp only[h.sgHit,h.b,e]
theorem SameJ.nextG(k:List Bool):nextG l' k=nextG l k:=by unfold Lw.nextG;rw[h.driverG,h.pairG,h.singleG]
theorem SameJ.findFrom:∀(n:Nat)(k:List Bool)(out:List Gr),findFrom l' n k out=findFrom l n k out
 |0,k,out=>rfl
 |n+1,k,out=>by
  unfold Lw.findFrom;rw[h.nextG];cases Lw.nextG l k with
  |none=>rfl
  |some g=>exact SameJ.findFrom n _ _
theorem SameJ.findG:findG l'=findG l:=by unfold Lw.findG;rw[h.b,h.findFrom]
theorem SameJ.splitE:splitE l'=splitE l:=by unfold Lw.splitE bU dU;rw[h.findG,h.b,h.j]
theorem SameJ.splitG:splitG l'=splitG l:=by unfold Lw.splitG;rw[h.splitE,h.findG]
end
def Jt.vs(j:Jt):List Value:=[.string j.name,.int .i64 j.kind,.int .i64 j.a,.int .i64 j.point,.int .i64 j.b,.int .i64 j.on,.int .i64 j.to]
def Dr.vs(d:Dr):List Value:=[.string d.name,.int .i64 d.body]
structure Gr.sm(g:Gr):Prop where
  b:g.bo.length<=100
  j:g.jo.length<=100
theorem pW{l:Li}(hl:aG l=0):(∀g∈splitG l,g.sm)/\(splitG l).length<=100:=by
 refine⟨fun g hg=>?_,?_⟩
 ·obtain⟨_,ho⟩:=jK hl hg;have:=ho.lb;have:=ho.lj
  exact⟨by omega,by omega⟩
 ·unfold splitG;split
  ·have:=(qB hl).2;omega
  ·exact W7 _
theorem Hc{β:Type}{g:β->AV}{l:List β}{i:Nat}(h:i<=l.length):((l.take i).map g).length=i:=by rw[WW,Xh];omega
theorem Uz:FP 68 [.v .nilIface] (i64 0):=by
 refine aj func68 ?_;refine gC (fun t6=>?_) (fun t6=>?_) (st2:=(77777,0))
 ·refine af ?_
  first |rfl |(simp;done)
 cases t6
theorem PU(n:Int):FP 68 [.v (.iface 60 (.int .i64 n))] (i64 n):=by
 refine aj func68 ?_;refine gC (fun t6=>?_) (fun t6=>?_) (st1:=(2,0));cases t6;refine gs (Tf (.tmp rfl) T60 rfl rfl) ?_;refine gC (fun t13=>?_) (fun t13=>?_) (st1:=(5,0));cases t13;refine af ?_;rfl
theorem MP(e:Nat):FP 68 [bq e] (i64 e):=by
 cases e with
 |zero=>exact Uz
 |succ e=>exact PU _
theorem Q8(a:List Int)(ha:a.length<=281474976710656):FP 42 [.lst 1 (a.map i64),.lst 1 (a.map i64)] (bl true):=by
 refine aj func42 ?_;refine gl ?_;refine gl ?_;refine gC (fun t10=>?_) (fun t10=>?_) (st1:=(2,0));exact absurd t10 (by simp[aa]);refine aZ [0,1] [] (fun(i:Nat)=>[(5,some (i64 i))]) (fun _=>[]) (fun i=>i<=a.length) (fun i=>a.length-i) 0 (W7 _) ?_;rintro i hi K1 J1;refine gl ?_;refine gC (fun t14=>?_) (fun t14=>?_)
 ·have hin:=a6 t14;obtain⟨x,hx⟩:=ax hin;refine gi (aI hx) ?_;refine gi (aI hx) ?_;refine gD ?_;refine gC (fun t25=>?_) (fun t25=>?_) (st1:=(7,0));exact absurd t25 (by simp[aa]);refine ga aO ?_;exact aP J1 (i+1) hin
 refine af ?_;rfl
theorem BU{l:Li}{xs:List Tn}(h:iG l xs=true)(hxw:∀x∈xs,x.t.wok):ib l=true/\xs.length<=20/\∀x∈xs,x.t.ok:=by
 unfold iG at h;simp only[W4,decide_eq_true_eq]at h;refine⟨h.1.1,h.1.2,fun x hx=>?_⟩;have h9:=List.all_eq_true.1 h.2.1 x hx;unfold l0 at h9;rw[decide_eq_true_eq]at h9;exact(hxw x hx).ok h9.1 h9.2 oz
theorem Ov{p:Bool}(h:cond (!true) true (!p)=false):p=true:=by cases p <;> simp_all
theorem AJ{F:Int->Bool}{sg:Bool}{f:Sv->List Aq×Nat}{b:Aq}:∀{S:List Sv},b∈(fx F sg f S).1->∃s∈S,F s.mode=true/\b∈(f s).1
 |[],h=>by cases h
 |s::S,h=>by
  rw[qQ]at h;split at h
  ·obtain⟨x,hx,h2⟩:=AJ h;exact⟨x,Xw _ hx,h2⟩
  ·rename_i hF;have hF:F s.mode = true:=by simpa using hF
   split at h
   ·exact⟨s,Xv,hF,h⟩
   ·split at h
    ·exact⟨s,Xv,hF,h⟩
    ·rcases List.mem_append.1 h with h |h
     ·exact⟨s,Xv,hF,h⟩
     ·obtain⟨x,hx,h2⟩:=AJ h;exact⟨x,Xw _ hx,h2⟩
open Lean.Grind (CommRing)
structure Nxt(l:Li)(kw:List Bool)(g:Gr):Prop where
  b:∀x∈g.bo,kn kw x=false
  j:∀z∈g.jo,∀j,l.jo[z.toNat]?=some j->(j.a∈g.bo\/kn kw j.a=true)/\(j.b∈g.bo\/kn kw j.b=true)
theorem sY{l:Li}{kind b:Int}{kw:List Bool}{bs:List Int}(hb:b∈bs)(h:0<=jointI l kind b kw){j:Jt}(hj:l.jo[(jointI l kind b kw).toNat]?=some j) :
  (j.a∈bs\/kn kw j.a=true)/\(j.b∈bs\/kn kw j.b=true):=by
 obtain⟨i,j',e,h1,_,h2⟩:=uR h;rw[e,Xk,h1]at hj;cases hj;rcases h2 with⟨e1,e2⟩ |⟨e1,e2⟩
 ·exact⟨.inl (e1▸hb),.inr e2⟩
 ·exact⟨.inr e2,.inl (e1▸hb)⟩
theorem WN{l:Li}(hl:aG l=0){kw:List Bool}{g:Gr}(h:nextG l kw=some g):Nxt l kw g:=by
 unfold nextG at h;cases h1:driverG l kw with
 |some g' =>
  rw[h1]at h;cases h;unfold driverG at h1;rw[WX]at h1;obtain⟨i,hi,rfl⟩:=h1;obtain⟨h1,h2⟩:=e8 hi;unfold drHit at h2;simp only[Bool.not_eq_false',W4,decide_eq_true_eq,Bool.not_eq_true']at h2;refine⟨vc h2.1,fun z hz j hj=>?_⟩;rw[List.mem_singleton.1 hz]at hj;exact sY (by simp) h2.2 hj
 |none =>
  rw[h1]at h;cases h2:pairG l kw with
  |some g' =>
   rw[h2]at h;cases h;have hf:=Gq h2;unfold pairG at h2;rw[WX]at h2;obtain⟨i,hi,h3⟩:=h2;obtain⟨_,h4⟩:=e8 hi;split at h3
   ·rename_i k hk;subst h3;unfold prAt at hk;rw [WX] at hk;obtain ⟨k',hk',rfl⟩:=hk;obtain ⟨h5,h6⟩:=e8 hk';rw [show i + 1 + k' = k' + (i + 1) by omega] at h6;unfold prHit at h6;simp only [Bool.not_eq_false',W4,decide_eq_true_eq] at h6;obtain ⟨_,⟨j1,j2⟩,j3⟩:=h6;refine ⟨fun x hx=>ql (hf x hx),fun z hz j hj=>?_⟩;simp only [prG,Xu,Xf,or_false] at hz;rcases hz with rfl | rfl | rfl
    ·exact sY (by simp[prG]) j1 hj
    ·exact sY (by simp[prG]) j2 hj
    ·obtain⟨n,a2,e,hj2,hkd,ht⟩:=uR j3;rw[e,Xk,hj2]at hj;cases hj;obtain⟨i1,i2,_⟩:=cA hl hj2;have i1:=(cM i1).1;have i2:=(cM i2).1;rcases ht with⟨e1,e2⟩ |⟨e1,e2⟩
     ·rw[om i2 oz oz]at e2;have e2:=of_decide_eq_true e2;exact⟨.inl (by simp[prG,e1]),.inl (by simp[prG,e2])⟩
     ·rw[om i1 oz oz]at e2;have e2:=of_decide_eq_true e2;exact⟨.inl (by simp[prG,e2]),.inl (by simp[prG,e1])⟩
   ·rename_i hk;rw[hk]at h4;cases h4
  |none =>
   rw[h2]at h;have hf:=Dj (show singleG l kw=some g from h);have h3:singleG l kw=some g:=h;unfold singleG at h3;rw[WX]at h3;obtain⟨i,hi,rfl⟩:=h3;obtain⟨_,h4⟩:=e8 hi;unfold sgHit at h4;simp only[Bool.not_eq_false',W4,decide_eq_true_eq]at h4;obtain⟨_,j1,j2⟩:=h4;refine⟨fun x hx=>ql (hf x hx),fun z hz j hj=>?_⟩;simp only[sgG,Xu,Xf,or_false]at hz;rcases hz with rfl |rfl
   ·exact sY (by simp[sgG]) j1 hj
   ·exact sY (by simp[sgG]) j2 hj
def Aa(l:Li):List Bool->List Gr->Prop
  |_,[]=>True
  |kw,g::gs=>Nxt l kw g/\Aa l (bA kw g.bo) gs
theorem IH{l:Li}(hl:aG l=0):∀(n:Nat)(kw:List Bool)(out:List Gr),∃gs,(findFrom l n kw out).2=out++gs/\Aa l kw gs
 |0,kw,out=>⟨[],(append_nil _).symm,trivial⟩
 |n+1,kw,out=>by
  unfold findFrom;cases hg:nextG l kw with
  |none=>exact⟨[],(append_nil _).symm,trivial⟩
  |some g =>
   obtain⟨gs,e,h⟩:=IH hl n (bA kw g.bo) (out++[g]);refine⟨g::gs,?_,WN hl hg,h⟩;show(findFrom l n (bA kw g.bo) (out++[g])).2=_;rw[e,XD];rfl
def eI(l:Li)(gs:List Gr)(m:Nat):List Bool:=(gs.take m).foldl (fun k g=>bA k g.bo) (cG l.bo.length 0)
theorem GR{l:Li}:∀(gs:List Gr)(kw:List Bool),Aa l kw gs->∀(m:Nat)(g:Gr),gs[m]?=some g->Nxt l ((gs.take m).foldl (fun k g=>bA k g.bo) kw) g
 |[],kw,h,m,g,hg=>by simp at hg
 |g0::gs,kw,h,0,g,hg=>by
  rw[List.getElem?_cons_zero]at hg;cases hg;exact h.1
 |g0::gs,kw,h,m+1,g,hg=>by
  rw[List.getElem?_cons_succ]at hg;exact GR gs _ h.2 m g hg
theorem KF(l:Li)(gs:List Gr)(m:Nat):(eI l gs m).length=l.bo.length:=by
 have:∀(gs:List Gr)(k:List Bool),(gs.foldl (fun k g=>bA k g.bo) k).length=k.length:=by
  intro gs
  induction gs with
  |nil=>intro k;rfl
  |cons g gs ih=>intro k;rw[foldl_cons,ih,ja]
 unfold eI;rw[this,gV]
theorem Vu{l:Li}{gs:List Gr}{m:Nat}{g:Gr}(hg:gs[m]?=some g):eI l gs (m+1)=bA (eI l gs m) g.bo:=by
 unfold eI;rw[List.take_add_one,hg,List.foldl_append];rfl
theorem oe{l:Li}{gs:List Gr}{m:Nat}{g:Gr}(hg:gs[m]?=some g)(ok:GrOk l g){b:Int}(h0:0<=b):kn (eI l gs (m+1)) b=(g.bo.any (fun x=>decide (x=b))||kn (eI l gs m) b):=by
 rw[Vu hg,yt h0 (fun x hx=>by rw[KF];exact ok.b x hx)]
theorem oG{l:Li}(hl:aG l=0)(hs:splitE l=0){m:Nat}{g:Gr}(hg:(splitG l)[m]?=some g):Nxt l (eI l (splitG l) m) g:=by
 obtain⟨gs,e,h⟩:=IH hl l.bo.length (cG l.bo.length 0) []
 have e2:splitG l=gs:=by
  unfold splitG findG;rw[XK hs,e];rfl
 rw[e2]at hg ⊢;exact GR gs _ h m g hg
theorem IA:∀(zs:List (Int×Pq))(bs:List Pq)(b:Int),(∀z∈zs,0<=z.1/\z.1≠b)->0<=b->(zs.foldl (fun k x=>k.set x.1.toNat x.2) bs).getD b.toNat bc=bs.getD b.toNat bc
 |[],bs,b,h,h0=>rfl
 |z::zs,bs,b,h,h0=>by
  rw[foldl_cons,IA zs _ b (fun y hy=>h y (Xw _ hy)) h0];obtain⟨h1,h2⟩:=h z Xv;exact j9 h1 h0 (Ne.symm h2)
theorem AT{bs:List Pq}{is:List Int}{ps:List Pq}{b:Int}(h:∀x∈is,0<=x)(hb:b∉is)(h0:0<=b):(a5 bs is ps).getD b.toNat bc=bs.getD b.toNat bc :=
 IA _ _ b (fun z hz=>by
  have:=(List.of_mem_zip hz).1;exact⟨h _ this,fun e=>hb (e▸this)⟩) h0
structure WkH(l:Li)(xs:List Tn)(a:Aq):Prop where
  js:∀m g,m<a.ms.length->(splitG l)[m]?=some g->∀z∈g.jo,JH l a.ts a.bs (l.jo.getD z.toNat default)
  cs:∀b:Int,0<=b->kn (eI l (splitG l) a.ms.length) b=true->CH a.ts (a.bs.getD b.toNat bc)
  dr:∀m g,m<a.ms.length->(splitG l)[m]?=some g->g.kind=0->dE a.ts (a.bs.getD (aN g 0).toNat bc).c=qE (dF (bZ g xs).half (bZ g xs).t.q)/\dE a.ts (a.bs.getD (aN g 0).toNat bc).s=qE (dD (bZ g xs).half (bZ g xs).t.q)
  fr:a.bs.getD 0 bc=ky
theorem Ue(T:LL):dE T []=0:=by rw[E.zero_def];exact iA _
theorem Po(T:LL):dE T [1]=1:=lO _ 1
theorem Us{T:LL}(hp:dL T):CH T ky:=by
 unfold CH ky;dsimp only;rw[Po,Ue,show(1:Et T)*1+0*0-1=0 by grind];exact(da _ _ hp).zero
theorem Ts{n:Nat}{b:Int}(h0:0<=b)(h:kn (cG n 0) b=true):b=0:=by
 unfold cG at h;rcases C3 h with h |h
 ·rw[uQ]at h;cases h
 ·have:(0:Int).toNat=0:=rfl;omega
theorem Ij(l:Li)(xs:List Tn)(hb:0<l.bo.length):WkH l xs (eG l):=by
 have e0:(eG l).bs.getD 0 bc=ky:=mz (by rw[Xt];exact hb);refine⟨fun m g h=>absurd h (Nat.not_lt_zero _),fun b h0 h=>?_,fun m g h=>absurd h (Nat.not_lt_zero _),e0⟩;have:b=0:=Ts h0 h;subst this;show CH (eG l).ts ((eG l).bs.getD 0 bc);rw[e0];exact Us zI.pos
theorem uz{n e:Nat}{a:List Rat}(h:Nm n e a):a.length<=2^n:=h.nl.le
theorem Pq.ok.nq{n e:Nat}{p:Pq}(h:Pq.ok n e p):Nq n p:=⟨uz h.c,uz h.s,uz h.x,uz h.y⟩
theorem B6{ts ts' T:LL}(e:ts=ts')(h:Lf ts T):Lf ts' T:=e▸h
section
variable{l:Li}{xs:List Tn}{s g:Nat}(W:WkC l xs s g){gr:Gr}{a:Aq}(hg:(splitG l)[a.ms.length]?=some gr)
variable{j r E:Nat}(Q:QInv l j r E a)
include W hg Q
theorem WkH.step(H:WkH l xs a){sv:Sv}(hs:sv∈ez l a.as gr (bZ gr xs)):WkH l xs (a.nxt gr sv):=by
 have tw:=QInv.twl W hg Q;have hq:(Lw.llq a.as.rs)=a.ts:=a.llq;obtain⟨dy,ok⟩:=W.grp hg;have N:=oG W.li W.sp hg
 have hN:∀p∈aK a.as,Nq (Lw.llq a.as.rs).length p:=by
  intro p hp;rw[kN]at hp;rw[hq];exact(Q.bs p hp).nq
 have G:=OE tw hN dy (fun b hb=>by
  rw[kN];have:=ok.b b hb;have:=Q.ln;omega) W.li hs
 rw[kN]at G;have L:Lf a.ts sv.ts:=B6 hq G.1.lf;have js:=G.1.js;have cs:=G.1.cs;rw[kN]at js cs;have hN':∀i,Nq a.ts.length (a.bs.getD i bc):=fun i=>zQ (fun p hp=>(Q.bs p hp).nq) i
 have sam:∀b:Int,0<=b->b∉gr.bo->cT a.bs (a5 a.bs gr.bo sv.ps) a.ts.length b:=fun b h0 hb=>⟨AT (fun x hx=>(ok.b x hx).1) hb h0,hN' _⟩
 have old:∀b:Int,kn (eI l (splitG l) a.ms.length) b=true->b∉gr.bo:=fun b hk hb=>by
  rw[N.b b hb]at hk;cases hk
 have hml:(a.nxt gr sv).ms.length=a.ms.length+1:=by show(a.ms++[sv.mode]).length=_;simp
 have mono:∀(k m:Nat),m+k<=a.ms.length->∀b:Int,0<=b->kn (eI l (splitG l) m) b=true->kn (eI l (splitG l) (m+k)) b=true:=by
  intro k
  induction k with
  |zero=>intro m _ b _ h;exact h
  |succ k ih =>
   intro m hm b h0 h;have h1:=ih m oz b h0 h;have hlt:m+k<(splitG l).length:=by have:=(List.getElem?_eq_some_iff.1 hg).1;omega
   obtain⟨g2,hg2⟩:=ax hlt;rw[show m+(k+1)=(m+k)+1 by omega,oe hg2 (W.grp hg2).2 h0,h1];simp
 have jn:∀{z:Int}{jt:Jt},l.jo[z.toNat]?=some jt->0<=jt.a/\0<=jt.b:=fun hj=>by
  obtain⟨i1,i2,_⟩:=cA W.li hj;have i1:=cM i1;have i2:=cM i2;omega
 have cP:∀m g2,m<a.ms.length->(splitG l)[m]?=some g2->∀b:Int,0<=b->(b∈g2.bo\/kn (eI l (splitG l) m) b=true)->b∉gr.bo:=by
  intro m g2 hm hg2 b h0 hb;refine old b ?_
  have h1:kn (eI l (splitG l) (m+1)) b=true:=by
   rw[oe hg2 (W.grp hg2).2 h0];rcases hb with hb |hb
   ·have : g2.bo.any (fun x => decide (x = b)) = true := by rw [List.any_eq_true]; exact ⟨b, hb, by simp⟩
    rw[this];rfl
   ·rw[hb];simp
  have:=mono (a.ms.length-(m+1)) (m+1) oz b h0 h1
  rwa [show m+1+(a.ms.length-(m+1))=a.ms.length by omega]at this
 refine⟨?_,?_,?_,?_⟩
 ·intro m g2 hm hg2 z hz;rw[hml]at hm;show JH l sv.ts (a5 a.bs gr.bo sv.ps) _
  by_cases e:m=a.ms.length
  ·subst e;rw[hg]at hg2;cases hg2;exact js z hz
  ·obtain⟨jt,hj⟩ := ax (l := l.jo) (i := z.toNat) (by have := (W.grp hg2).2.j z hz;omega);have hjz:l.jo[z.toNat]?=some jt:=hj;have H1:=H.js m g2 oz hg2 z hz;rw[au hj]at H1 ⊢;have N2:=oG W.li W.sp hg2;obtain⟨na,nb⟩:=N2.j z hz jt hj;obtain⟨a0,b0⟩:=jn hjz;exact L.jh (sam _ a0 (cP m g2 oz hg2 _ a0 na)) (sam _ b0 (cP m g2 oz hg2 _ b0 nb)) H1
 ·intro b h0 hk;rw[hml,oe hg ok h0]at hk;show CH sv.ts ((a5 a.bs gr.bo sv.ps).getD b.toNat bc)
  by_cases hb:b∈gr.bo
  ·exact cs b hb
  ·have:gr.bo.any (fun x=>decide (x=b))=false:=by
    cases h:gr.bo.any (fun x=>decide (x=b))with
    |false=>rfl
    |true =>
     rw[List.any_eq_true]at h;obtain⟨x,hx,e⟩:=h;exact absurd ((of_decide_eq_true e)▸hx) hb
   rw[this,Bool.false_or]at hk;have S:=sam b h0 hb;rw[S.1];exact L.ch S.2 (H.cs b h0 hk)
 ·intro m g2 hm hg2 hk;rw[hml]at hm;show dE sv.ts ((a5 a.bs gr.bo sv.ps).getD (aN g2 0).toNat bc).c=_/\dE sv.ts ((a5 a.bs gr.bo sv.ps).getD (aN g2 0).toNat bc).s=_
  by_cases e:m=a.ms.length
  ·subst e;rw[hg]at hg2;cases hg2;exact G.2 hk
  ·obtain⟨h1,h2⟩:=H.dr m g2 oz hg2 hk
   have hb:aN g2 0∈g2.bo:=by
    have:=(W.grp hg2).1;cases this with
    |drv=>exact Xv
    |rrr=>exact absurd hk (by simp)
    |pr=>exact absurd hk (by simp)
    |rp=>exact absurd hk (by simp)
   have h0:=((W.grp hg2).2.b _ hb).1;have S:=sam _ h0 (cP m g2 oz hg2 _ h0 (.inl hb));obtain⟨n1,n2,_⟩:=S.2;rw[S.1,<- L.low _ n1,<- L.low _ n2,h1,h2,L.q,L.q];exact⟨rfl,rfl⟩
 ·show(a5 a.bs gr.bo sv.ps).getD (0:Int).toNat bc=ky
  have h0:(0:Int)∉gr.bo:=by
   refine old 0 ?_
   have hs:=mono a.ms.length 0 oz 0 oz (by
    show kn (cG l.bo.length 0) 0=true;rw[om oz oz (by have:=(cU W.li).2.2.2;omega)];rfl)
   rwa [Nat.zero_add]at hs
  rw[(sam 0 oz h0).1];exact H.fr
end
end Go.Lw
namespace Go.Lw
theorem BA{F:Int->Bool}{sg:Bool}{f:Sv->List Aq×Nat}{b:Aq}:∀{S:List Sv},b∈(fx F sg f S).1->∃s∈S,b∈(f s).1:=by
 intro S h;obtain⟨s,hs,_,h2⟩:=AJ h;exact⟨s,hs,h2⟩
theorem yL{l:Li}{xs:List Tn}{s g:Nat}(W:WkC l xs s g){F:Nat->Int->Bool}{sg:Bool}:∀(n:Nat)(a:Aq),WkSt l s g n a->WkH l xs a->∀b∈(fM F sg l xs (splitG l) n a).1,WkSt l s g 0 b/\WkH l xs b
 |0,a,h,H,b,hb=>by rw[List.mem_singleton.1 hb];exact⟨h,H⟩
 |n+1,a,h,H,b,hb=>by
  obtain⟨gr,hg,_,hP,hn⟩:=h.next W;obtain⟨⟨j,r,E,y,Q,ok,hc⟩,hl⟩:=h;unfold fM at hb;rw[au hg]at hb;split at hb
  ·cases hb
  ·obtain⟨sv,hsv,h2⟩:=BA hb;exact yL W n _ (hn sv hsv) (WkH.step W hg Q H hsv) b h2
structure AqFin(l:Li)(xs:List Tn)(a:Aq):Prop where
  li:aG l=0
  lx:xs.length=l.dv.length
  xo:∀x∈xs,x.err=0/\Qb 1000 x.t.q/\x.t.ok
  tw:∃r,r<=400000000/\Tw a.ts r
  two:a.ts.length<=2
  bs:∀p∈a.bs,Pq.ok a.ts.length 3200000000 p
  ln:a.bs.length=l.bo.length
  lm:a.ms.length<=100
  js:∀j∈l.jo,JH l a.ts a.bs j
  cs:∀i,i<l.bo.length->CH a.ts (a.bs.getD i bc)
  dr:∀i d,l.dv[i]?=some d->dE a.ts (a.bs.getD d.body.toNat bc).c=qE (dF (xs.getD i dx).half (xs.getD i dx).t.q)/\dE a.ts (a.bs.getD d.body.toNat bc).s=qE (dD (xs.getD i dx).half (xs.getD i dx).t.q)
  fr:a.bs.getD 0 bc=ky
theorem Gg{f:Gr->List Int}:∀(gs:List Gr)(k:List Bool)(b:Int),kn (gs.foldl (fun k g=>bA k (f g)) k) b=true->kn k b=true\/∃g∈gs,∃x∈f g,x.toNat=b.toNat
 |[],k,b,h=>.inl h
 |g::gs,k,b,h=>by
  rw[foldl_cons]at h;rcases Gg gs _ b h with h |⟨g',hg,x,hx,e⟩
  ·rcases zU _ h with h |⟨x,hx,e⟩
   ·exact .inl h
   ·exact .inr ⟨g,Xv,x,hx,e⟩
  ·exact .inr ⟨g',Xw _ hg,x,hx,e⟩
theorem II{k:List Bool}(h:(eK k).length=0){i:Nat}(hi:i<k.length):kn k (i:Int)=true:=by
 rw[xk]at h;unfold kn;rw[WV,WY (by omega:(i:Int).toNat<k.length)];show k[(i:Int).toNat]=true;cases hv:k[(i:Int).toNat]'oz with
 |true=>rfl
 |false =>
  exfalso;have hm:false∈k:=hv▸List.getElem_mem _;rw[<- List.contains_iff_mem]at hm;rw[hm]at h;cases h
theorem Bt(f:Gr->List Int):∀(gs:List Gr)(k:List Bool),(gs.foldl (fun k g=>bA k (f g)) k).length=k.length
 |[],k=>rfl
 |g::gs,k=>by rw[foldl_cons,Bt f gs,ja]
theorem Q3{l:Li}(hs:splitE l=0):(eK (bU l)).length=0/\(eK (dU l)).length=0/\splitG l=findG l:=by
 have h9:(eK (bU l)).length+(eK (dU l)).length=0:=by
  unfold splitE at hs;split at hs
  ·assumption
  ·cases hs
 exact⟨by omega,by omega,by unfold splitG;rw[XK hs]⟩
theorem Fb{l:Li}{xs:List Tn}{s g:Nat}(W:WkC l xs s g){a:Aq}(h:WkSt l s g 0 a)(H:WkH l xs a):AqFin l xs a:=by
 obtain⟨⟨j,r,E,y,Q,ok,_⟩,hl⟩:=h;obtain⟨hE,hr,hj⟩:=Cv ok;obtain⟨r1,r2,r3⟩:=Q3 W.sp;have h1:=Q.lv;have h4:=rW W.li;refine⟨W.li,W.ln,fun x hx=>⟨(W.ok x hx).2.1,(W.ok x hx).2.2.1,(W.ok x hx).1⟩,⟨r,hr,Q.tw⟩,by omega,fun p hp=>(Q.bs p hp).up (WZ _) Q.tw.five hE,Q.ln,by omega,?_,?_,?_,H.fr⟩
 ·intro jt hjt;obtain ⟨i,hi⟩:=XC hjt;have hil:=(List.getElem?_eq_some_iff.1 hi).1;have hlen:(dU l).length = l.jo.length:=by unfold dU; rw [Bt Gr.jo,Xt]
  have hk:=II r2 (i:=i) oz;unfold dU at hk;rcases Gg (f:=Gr.jo) _ _ _ hk with h9 |⟨gr,hg,z,hz,e⟩
  ·rw[uQ]at h9;cases h9
  ·rw[<- r3]at hg;obtain⟨m,hm⟩:=XC hg;have hml:=(List.getElem?_eq_some_iff.1 hm).1;have hJ:=H.js m gr oz hm z hz;rw[e,Xk,au hi]at hJ;exact hJ
 ·intro i hi;have hlen:(bU l).length = l.bo.length:=by unfold bU; rw [Bt Gr.bo,gV]
  have hk:=II r1 (i:=i) oz
  have e:bU l=eI l (splitG l) a.ms.length:=by
   unfold eI bU;rw[r3]at hl ⊢;rw[Xb oz]
  rw[e]at hk;have:=H.cs i oz hk
  rwa [Xk]at this
 ·intro i d hd;obtain ⟨gr,hg,hk,hb⟩:=HC W.li W.sp d (WU hd);obtain ⟨m,hm⟩:=XC hg;have hml:=(List.getElem?_eq_some_iff.1 hm).1;have hD:=H.dr m gr oz hm hk;have eb:aN gr 0 = d.body:=by unfold aN; rw [hb]; rfl
  have hdy:=(W.grp hm).1
  have ed:gr.driver=(i:Int):=by
   cases hdy with
   | @drv b z dd jt x t d0 hd2 hxb =>
    have e2:x.body=d.body:=hxb.trans (by simpa using hb);rcases Nat.lt_trichotomy dd.toNat i with h9 |h9 |h9
    ·exact absurd e2 ((u9 W.li hd).2 _ x h9 hd2)
    ·show dd=(i:Int);omega
    ·exact absurd e2.symm ((u9 W.li hd2).2 _ d h9 hd)
   |rrr=>exact absurd hk (by simp)
   |pr=>exact absurd hk (by simp)
   |rp=>exact absurd hk (by simp)
  have et:bZ gr xs=xs.getD i dx:=by unfold bZ;rw[XK hk,ed,Xk]
  rw[eb,et]at hD;exact hD
theorem Pm{l:Li}(hl:l.ok){xs:List Tn}(hL:iG l xs=true)(hxw:∀x∈xs,x.t.wok){A:List Aq}{e:Nat}(h:hO l xs=(A,e)):∀a∈A,AqFin l xs a:=by
 by_cases h0:cI l xs=0
 ·obtain⟨s,g,W,St⟩:=tX hL hl hxw h0;have hb:=(cU W.li).2.2.2;have hw:=yL W (F:=gI) (sg:=false) (splitG l).length (eG l) St (Ij l xs oz);unfold hO at h;rw[XJ (fun h=>h h0)]at h;intro a ha;split at h
  ·cases h;cases ha
  ·have e1:(lh gI false l xs).1=A:=congrArg Prod.fst h;rw[<- e1]at ha;obtain⟨h1,h2⟩:=hw a ha;exact Fb W h1 h2
 ·unfold hO at h;rw[XK h0]at h;cases h;intro a ha;cases ha
end Go.Lw
