/- ModesTrue: for any linkage and any turns the law returns true and leaves its arguments as they were. No other condition. Part 7 of 8: what the later parts need -/
import Derived.Test.YtpdiojikejnehaaGreatVf
set_option linter.unusedVariables false
open List (mem_of_getElem? mem_cons_of_mem mem_append map_cons mem_cons all_cons length_cons foldl_cons mem_cons_self length_append length_nil getD_eq_getElem?_getD all_eq_true getElem?_take getElem?_map append_assoc getElem?_eq_getElem nil_append getElem?_replicate append_nil map_append length_take take_of_length_le length_map drop_zero take_length map_nil not_mem_nil getElem?_of_mem getElem_mem map_map length_replicate map_replicate map_set length_set)
open Nat (eq_of_beq_eq_true le_refl lt_or_ge le_trans mul_le_mul_right zero_le pow_add lt_of_le_of_lt)
open Option (map_eq_some_iff)
open Bool (and_eq_true or_eq_true)
open Int (toNat_natCast)
open Go.Proofs.Tryz
namespace Go.Lw
theorem Bt(r:(k:Nat)->T k)(q:Rat):∀(k:Nat){a c:List Rat},(∀i,i<2^k->c.getD i 0=q*a.getD i 0)->ae k c=T.mul r k (T.ofQ k q) (ae k a)
 |0,a,c,h=>h 0 (by decide)
 |k+1,a,c,h=>by
  have h1:=Bt r q k (a:=a.take (2^k)) (c:=c.take (2^k)) (fun i hi=>by rw[kA,kA,if_pos hi,if_pos hi];exact h i (by rw[Nat.pow_succ];omega));have h2:=Bt r q k (a:=a.drop (2^k)) (c:=c.drop (2^k)) (fun i hi=>by rw[kp,kp];exact h _ (by rw[Nat.pow_succ];omega));show(ae k (c.take (2^k)),ae k (c.drop (2^k)))=T.mul r (k+1) (T.ofQ k q,T.zero k) (ae k (a.take (2^k)),ae k (a.drop (2^k)));rw[T.mul_comm,T.mul_half,h1,h2,T.mul_comm r k (ae k (a.take _)),T.mul_comm r k (ae k (a.drop _))]
section
variable{ts:LL}
def Bz(e:Nat)(x:Et ts):Prop:=Nm ts.length e (sX x)
theorem Bz.mono{e f:Nat}{x:Et ts}(h:Bz e x)(hf:e<=f):Bz f x:=Nm.mono h hf
theorem Bz.add{e f:Nat}{x y:Et ts}(hx:Bz e x)(hy:Bz f y):Bz (e+f+1) (x+y):=Nm.addT hx hy
theorem Bz.sub{e f:Nat}{x y:Et ts}(hx:Bz e x)(hy:Bz f y):Bz (e+f+1) (x-y):=Nm.subT hx hy
theorem Bz.neg{e:Nat}{x:Et ts}(hx:Bz e x):Bz e (-x):=Nm.negT hx
theorem Bz.mul{r K e f:Nat}(tw:Tw ts r)(hK:eB r ts.length<=K){x y:Et ts}(hx:Bz e x)(hy:Bz f y):Bz (e+f+K) (x*y):=by
 have h:=Nm.mul tw rfl hx hy;have e1:∀z:Et ts,ae ts.length (sX z)=z:=fun z=>bn _ _
 rw[e1,e1]at h;exact Nm.mono h (Nat.add_le_add_left hK _)
theorem Bz.q{e:Nat}{q:Rat}(h5:ts.length<=5)(hq:Cb e [q]):Bz e (qE q:Et ts):=by
 unfold Bz;rw[r7];exact Nm.ofQ h5 hq
theorem Bz.qm{e f:Nat}{q:Rat}{x:Et ts}(hq:Cb e [q])(hx:Bz f x):Bz (e+f) (qE q*x):=by
 obtain⟨D,N,h1,h2,h3⟩:=hq;obtain⟨D',N',k1,k2,k3⟩:=hx.cb;obtain⟨n,hn,hN⟩:=h1.2 q (List.mem_singleton.2 rfl);have hx2:ae ts.length (sX x)=x:=bn _ _
 have hd:ae ts.length ((sX x).map (q*·))=T.mul (ax ts) ts.length (T.ofQ ts.length q) (ae ts.length (sX x)):=Bt _ q _ (fun i _=>by
  rw[getD_eq_getElem?_getD,getElem?_map,getD_eq_getElem?_getD];cases(sX x)[i]? with
  |none=>exact(Rat.mul_zero q).symm
  |some v=>rfl)
 rw[hx2]at hd
 have hc:Cb (e+f) ((sX x).map (q*·)):=by
  refine⟨D*D',N*N',⟨Nat.mul_pos h1.1 k1.1,?_⟩,?_,?_⟩
  ·intro z hz;obtain⟨y,hy,rfl⟩:=List.mem_map.1 hz;obtain⟨m,hm,hM⟩:=k1.2 y hy;refine⟨n*m,?_,?_⟩
   ·rw[Int.natCast_mul,Rat.intCast_mul,Rat.intCast_mul,<- hn,<- hm];grind
   ·rw[Int.natAbs_mul];exact Nat.mul_le_mul hN hM
  ·rw[pow_add];exact Nat.mul_le_mul h2 k2
  ·rw[pow_add];exact Nat.mul_le_mul h3 k3
 have hnl:Nl ts.length ((sX x).map (q*·)):=by
  rcases hx.nl with h |⟨j,hj,h⟩
  ·exact .inl (by rw[h];rfl)
  ·exact .inr ⟨j,hj,by rw[length_map];exact h⟩
 refine⟨hx.five,eM _ _,?_⟩;have:=hc.sh hnl;rw[hd]at this;exact this
theorem Bz.mq{e f:Nat}{q:Rat}{x:Et ts}(hx:Bz f x)(hq:Cb e [q]):Bz (e+f) (x*qE q):=by
 rw[show x*qE q=qE q*x by grind];exact hx.qm hq
theorem Bz.iq{e f:Nat}{q:Rat}{x:Et ts}(hx:Bz f x)(hq:Cb e [q])(h0:q≠0):Bz (e+f) (x*iE (qE q)):=by
 have h:(iE (qE q):Et ts)=qE (1/q):=vH _ _ q;rw[h];exact hx.mq (hq.inv1 h0)
theorem Bz.iv{r f j I:Nat}{y:Et ts}(tw:Tw ts r)(hy:Bz f y)(nb:Nl j (sX y))(hj:j<=ts.length)(h0:an y≠0)(hI:iB r j f<=I)(hs:I<=50000000000):Bz I (iE y):=by
 have hf:=yG r j f;have hl:=ki ts.length;have e1:ae ts.length (sX y)=y:=bn _ _;obtain⟨L,_,k2,k3,k4⟩:=yY (b:=sX y) tw hy hj nb (by rw[e1];exact h0) oz oz;rw[e1]at k4;have:=k3.sh k2;rw[k4]at this;exact⟨tw.five,eM _ _,this.mono hI⟩
structure Pz(n ec ex:Nat)(p:Pq):Prop where
  c:Nm n ec p.c
  s:Nm n ec p.s
  x:Nm n ex p.x
  y:Nm n ex p.y
theorem Pz.mono{n n' a b a' b':Nat}{p:Pq}(h:Pz n a b p)(hn:n<=n')(h5:n'<=5)(ha:a<=a')(hb:b<=b'):Pz n' a' b' p :=
 ⟨⟨h5,h.c.nl.mono hn,h.c.cb.mono ha⟩,⟨h5,h.s.nl.mono hn,h.s.cb.mono ha⟩,⟨h5,h.x.nl.mono hn,h.x.cb.mono hb⟩,⟨h5,h.y.nl.mono hn,h.y.cb.mono hb⟩⟩
theorem Ij{s t e f:Nat}{u p:Rat×Rat}{w o:P2 ts}(hu:Sm t u)(hp:Sm s p)(h0:bX u u≠0)(w1:Bz e w.1)(w2:Bz e w.2)(o1:Bz f o.1)(o2:Bz f o.2) :
  Pz ts.length (2*e+6*t+2) (f+4*e+12*t+2*s+6) (gy u w p o):=by
 have u1:=Cb.one hu.x;have u2:=Cb.one hu.y;have p1:=Cb.one hp.x;have p2:=Cb.one hp.y;have n:=Cb.one (hu.dot hu);have c:=(((w1.qm u1).add (w2.qm u2)).iq n h0).mono (f:=2*e+6*t+2) oz;have d:=(((w2.qm u1).sub (w1.qm u2)).iq n h0).mono (f:=2*e+6*t+2) oz;exact⟨c,d,(o1.sub ((c.mq p1).sub (d.mq p2))).mono oz,(o2.sub ((d.mq p1).add (c.mq p2))).mono oz⟩
theorem pq{a:List Rat}{e:Nat}(h:Nm ts.length e a):Bz e (dE ts a):=by
 have:=h.cb.sh h.nl;exact⟨h.five,eM _ _,this⟩
theorem Jy{s f:Nat}{p:Rat×Rat}{c d:Rat}{o:P2 ts}{g:Nat}(hc:Cb g [c])(hd:Cb g [d])(hp:Sm s p)(h5:ts.length<=5)(o1:Bz f o.1)(o2:Bz f o.2) :
  Pz ts.length (g+1) (f+2*g+2*s+4) (gy (((1:Int):Rat),0) ((qE c,qE d):P2 ts) p o):=by
 have e0:∀x:Et ts,(qE ((1:Int):Rat):Et ts)*x=x:=fun x=>by
  have:(qE ((1:Int):Rat):Et ts)=1:=rfl;rw[this];grind
 have e1:∀x:Et ts,(qE (0:Rat):Et ts)*x=0:=fun x=>by
  have:(qE (0:Rat):Et ts)=0:=rfl;rw[this];grind
 have e2:(iE (jW (((1:Int):Rat),0)):Et ts)=1:=by
  show iE (qE (bX (((1:Int):Rat),0) (((1:Int):Rat),0)))=_;rw[show bX (((1:Int):Rat),(0:Rat)) (((1:Int):Rat),(0:Rat))=1 by decide +kernel];exact xq
 have ec:dm (((1:Int):Rat),0) ((qE c,qE d):P2 ts)=qE c:=by
  unfold dm;rw[e0,e1,e2];grind
 have ed:dc (((1:Int):Rat),0) ((qE c,qE d):P2 ts)=qE d:=by
  unfold dc;rw[e0,e1,e2];grind
 have p1:=Cb.one hp.x;have p2:=Cb.one hp.y;have c1:Bz g (qE c:Et ts):=Bz.q h5 hc;have d1:Bz g (qE d:Et ts):=Bz.q h5 hd;refine⟨?_,?_,?_,?_⟩
 ·show Bz _ (dm _ _);rw[ec];exact c1.mono oz
 ·show Bz _ (dc _ _);rw[ed];exact d1.mono oz
 ·show Bz _ (o5 _ _ p o);unfold o5;rw[ec,ed];exact(o1.sub ((c1.mq p1).sub (d1.mq p2))).mono oz
 ·show Bz _ (qi _ _ p o);unfold qi;rw[ec,ed];exact(o2.sub ((d1.mq p1).add (c1.mq p2))).mono oz
structure Xz(ts:LL)(r X:Nat)(us:LL):Prop where
  tw:Tw us (r+X)
  up:ts.length<=us.length
  ln:us.length<=ts.length+1
theorem yu{r X:Nat}(tw:Tw ts r)(hx:r+X<=5000000000):Xz ts r X ts:=⟨⟨tw.three,tw.len,tw.pos,tw.rb.mono oz,hx⟩,le_refl _,by omega⟩
theorem wN{r X:Nat}(tw:Tw ts r)(hn:ts.length<=1)(hx:r+X<=5000000000){x:Et ts}(h:Bz X x)(hs:0<=an x):Xz ts r X (aR ts (sX x)) :=
 ⟨ym tw oz h hx (by rw[show ae ts.length (sX x)=x from bn _ _];exact hs),by rw[dB];omega,by rw[dB];omega⟩
theorem Bz.up{e:Nat}{X x:Et ts}(h:Bz e x)(hn:ts.length<=1):Bz e (aL X x):=by
 have h1:Nm (aR ts (sX X)).length e (sX x):=lZ h oz;exact pq h1
structure Szs(n r a b X K K' I J:Nat):Prop where
  n1:n<=1
  hK:eB r n<=K
  hX:24*a+8*K+5*b+23<=X
  hL:r+X<=5000000000
  hK':eB (r+X) (n+1)<=K'
  hI:iB r n (8*a+2*K+8)<=I
  hJ:iB (r+X) n (8*a+2*K+8)<=J
  hJ':J<=50000000000
  kk:K<=K'
  ij:I<=J
theorem Szs.kx{n r a b X K K' I J:Nat}(h:Szs n r a b X K K' I J){us:LL}(hu:us.length<=n+1):eB (r+X) us.length<=K':=le_trans (ip _ hu) h.hK'
section
variable{r a b X K K' I J:Nat}(Z:Szs ts.length r a b X K K' I J)(tw:Tw ts r)
include Z tw
theorem zB{p q:P2 ts}(p1:Bz a p.1)(p2:Bz a p.2)(q1:Bz a q.1)(q2:Bz a q.2):Bz (8*a+2*K+5) (dU (aQ q p) (aQ q p)):=by
 have v1:=q1.sub p1;have v2:=q2.sub p2;exact((v1.mul tw Z.hK v1).add (v2.mul tw Z.hK v2)).mono oz
theorem yy{y:Et ts}(hy:Bz (8*a+2*K+8) y)(h0:an y≠0):Bz I (iE y) :=
 hy.iv tw (eM _ _) (le_refl _) h0 Z.hI (by have:=Z.ij;have:=Z.hJ';omega)
theorem Am{x y:Et ts}(hx:Bz X x)(hs:0<=an x)(hy:Bz (8*a+2*K+8) y)(h0:an y≠0):Bz J (iE (aL x y)):=by
 have E:=wN tw Z.n1 Z.hL hx hs
 have e1:sX (aL x y)=sX y:=by
  have:=(w8 (X:=x) Z.n1 _ y hy).2;exact this
 refine(hy.up Z.n1).iv E.tw (j:=ts.length) (by rw[e1];exact eM _ _) E.up (by rw[nP];exact h0) Z.hJ Z.hJ'
theorem Bc{x:Et ts}:Bz 1 (dE (aR ts (sX x)) (cr ts.length)):=by have _:=tw;exact pq (sW (by have:=Z.n1;omega))
theorem N0{p q:P2 ts}{z z2:Et ts}(p1:Bz a p.1)(p2:Bz a p.2)(q1:Bz a q.1)(q2:Bz a q.2)(hz:Bz b z)(hz2:Bz b z2)(h0:fw p q z z2=0) :
  Xz ts r X (dX p q z z2).ts/\∀m∈(dX p q z z2).ps,Nm (dX p q z z2).ts.length (13*a+2*b+5*K+2*K'+I+J+20) m.1/\Nm (dX p q z z2).ts.length (13*a+2*b+5*K+2*K'+I+J+20) m.2:=by
 have hn:=Z.n1;have hkk:=Z.kk;have hd:Bz (8*a+2*K+5) (az p q):=zB Z tw (p:=q) (q:=p) q1 q2 p1 p2;have hm:=(hz.add hd).sub hz2;have q4:Cb 3 [((4:Int):Rat)]:=Cb.int (z:=4) (by decide);have q2':Cb 2 [((2:Int):Rat)]:=Cb.int (z:=2) (by decide);have qm1:Cb 1 [((-1:Int):Rat)]:=Cb.int (z:=-1) (by decide)
 have hX:Bz X (bc p z q z2):=by
  have h:=((hz.mul tw Z.hK hd).qm q4).sub (hm.mul tw Z.hK hm);have h2:=h.mono (f:=X) (by have:=Z.hX;omega);exact h2
 have same:=yu (X:=X) tw Z.hL;have v1:=q1.sub p1;have v2:=q2.sub p2;unfold fw lG at h0;unfold dX kJ
 by_cases hs:an (az p q)=0
 ·rw[if_pos hs]at h0 ⊢
  by_cases hz0:an (z-z2)≠0
  ·rw[if_pos hz0];exact⟨same,fun m hm=>by cases hm⟩
  ·rw[if_neg hz0]
   by_cases hp:0<an z
   ·rw[if_pos ⟨Decidable.not_not.1 hz0,hp⟩]at h0;cases h0
   ·rw[if_neg hp]
    have n0:Bz 0 (0:Et ts):=by
     have:=Bz.q (ts:=ts) (e:=0) (q:=0) oz (Cb.int (z:=0) (by decide));exact this
    refine⟨same,ii ⟨?_,?_⟩⟩
    ·exact(p1.add (n0.mul tw Z.hK p1)).mono (f:=13*a+2*b+5*K+2*K'+I+J+20) oz
    ·exact(p2.add (n0.mul tw Z.hK p2)).mono (f:=13*a+2*b+5*K+2*K'+I+J+20) oz
 ·rw [if_neg hs];have ht0:an (er (az p q)) ≠ 0:=by rw [wi tw]; exact hs
  have ht:Bz (8*a+2*K+8) (er (az p q)):=Bz.mono (e:=2+(8*a+2*K+5)) (hd.qm q2') oz
  by_cases hx0:an (bc p z q z2)<0
  ·rw[if_pos hx0];exact⟨same,fun m hm=>by cases hm⟩
  ·rw[if_neg hx0];have hk:=hm.mul tw Z.hK (yy Z tw ht ht0);have f1:Bz (11*a+2*b+4*K+I+10) (cW p q z z2).1:=(p1.add (hk.mul tw Z.hK v1)).mono oz;have f2:Bz (11*a+2*b+4*K+I+10) (cW p q z z2).2:=(p2.add (hk.mul tw Z.hK v2)).mono oz
   by_cases hx1:an (bc p z q z2)=0
   ·rw[if_pos hx1];exact⟨same,ii ⟨f1.mono oz,f2.mono oz⟩⟩
   ·rw [if_neg hx1];have hpos:0 <= an (bc p z q z2):=by omega
    have E:=wN tw hn Z.hL hX hpos;have hkx:=Z.kx E.ln;have s1:=(Bc Z tw (x:=bc p z q z2)).mul E.tw hkx (Am Z tw hX hpos ht ht0);have s2:=s1.qm qm1;have w1:=(v2.up (X:=bc p z q z2) hn).qm qm1;have w2:=v1.up (X:=bc p z q z2) hn;have g1:=f1.up (X:=bc p z q z2) hn;have g2:=f2.up (X:=bc p z q z2) hn;exact⟨E,lD ⟨(g1.add (s1.mul E.tw hkx w1)).mono oz,(g2.add (s1.mul E.tw hkx w2)).mono oz⟩ ⟨(g1.add (s2.mul E.tw hkx w1)).mono oz,(g2.add (s2.mul E.tw hkx w2)).mono oz⟩⟩
theorem KR{p q o:P2 ts}{z:Et ts}(p1:Bz a p.1)(p2:Bz a p.2)(q1:Bz a q.1)(q2:Bz a q.2)(o1:Bz a o.1)(o2:Bz a o.2)(hz:Bz b z)(h0:fC p q=0) :
  Xz ts r X (dS p q o z).ts/\∀m∈(dS p q o z).ps,Nm (dS p q o z).ts.length (13*a+2*b+5*K+2*K'+I+J+20) m.1/\Nm (dS p q o z).ts.length (13*a+2*b+5*K+2*K'+I+J+20) m.2:=by
 have hn:=Z.n1;have hkk:=Z.kk;have hS:=(zB Z tw p1 p2 q1 q2)
 have v1:=q1.sub p1;have v2:=q2.sub p2;have w1:=o1.sub p1;have w2:=o2.sub p2;have hE:Bz (8*a+2*K+5) (bG p q o):=((v1.mul tw Z.hK w1).add (v2.mul tw Z.hK w2)).mono oz;have hC:Bz (8*a+2*K+5) (ik p q o):=((v1.mul tw Z.hK w2).sub (v2.mul tw Z.hK w1)).mono oz;have hX:Bz X (aO p q o z):=((hS.mul tw Z.hK hz).sub (hC.mul tw Z.hK hC)).mono (by have:=Z.hX;omega);have same:=yu (X:=X) tw Z.hL;unfold fC at h0;unfold dS
 by_cases hs:an (bi p q)=0
 ·rw[if_pos hs]at h0;cases h0
 ·rw[if_neg hs]
  by_cases h1:an (aO p q o z)=-1
  ·rw[if_pos h1];exact⟨same,fun m hm=>by cases hm⟩
  ·rw[if_neg h1]
   by_cases h2:an (aO p q o z)=0
   ·rw[if_pos h2];have hk:=hE.mul tw Z.hK (yy Z tw (hS.mono oz) hs);exact⟨same,ii ⟨(p1.add (hk.mul tw Z.hK v1)).mono (f:=13*a+2*b+5*K+2*K'+I+J+20) oz,(p2.add (hk.mul tw Z.hK v2)).mono (f:=13*a+2*b+5*K+2*K'+I+J+20) oz⟩⟩
   ·rw[if_neg h2]
    have hpos:0<=an (aO p q o z):=by
     have:=T.sgn_cases (ax ts) ts.length (aO p q o z);have e:an (aO p q o z)=T.sgn (ax ts) ts.length (aO p q o z):=rfl;omega
    have E:=wN tw hn Z.hL hX hpos;have hkx:=Z.kx E.ln;have hi:=Am Z tw hX hpos (hS.mono oz) hs;have rt:=Bc Z tw (x:=aO p q o z);have k1:=((hE.up (X:=aO p q o z) hn).add rt).mul E.tw hkx hi;have k2:=((hE.up (X:=aO p q o z) hn).sub rt).mul E.tw hkx hi;have g1:=p1.up (X:=aO p q o z) hn;have g2:=p2.up (X:=aO p q o z) hn;have u1:=v1.up (X:=aO p q o z) hn;have u2:=v2.up (X:=aO p q o z) hn;exact⟨E,lD ⟨(g1.add (k1.mul E.tw hkx u1)).mono oz,(g2.add (k1.mul E.tw hkx u2)).mono oz⟩ ⟨(g1.add (k2.mul E.tw hkx u1)).mono oz,(g2.add (k2.mul E.tw hkx u2)).mono oz⟩⟩
end
end
def Cs(s:Nat)(l:Li):Prop:=∀b∈l.bo,∀m∈b.pts,Qb s m.x.q/\Qb s m.y.q
section
variable{s:Nat}{l:Li}(hl:l.ok)(hli:aD l=0)(hcs:Cs s l)
include hl hli hcs
theorem tf{body pt:Int}(h1:bA body l.bo.length=true)(h2:bA pt (cJ l body).length=true):Sm s (aS l body pt):=by
 obtain⟨n,k,bd,m,h⟩:=qv hl hli h1 h2;obtain⟨c1,c2⟩:=hcs bd (mem_of_getElem? h.gbd) m (mem_of_getElem? h.gm);rw[h.ex,cf]at c1;rw[h.ey,cf]at c2;exact⟨c1,c2⟩
theorem oJ{i:Nat}{j:Jt}(hj:l.jo[i]?=some j){b:Int}(h:j.a=b\/j.b=b):Sm s (am l j b):=by
 obtain⟨i1,i2,i3,i4,_⟩:=cU hli hj;unfold am
 by_cases e:j.a=b
 ·rw[if_pos e];subst e;exact tf hl hli hcs i1 i3
 ·rw[if_neg e];rcases h with h |h
  ·exact absurd h e
  ·subst h;exact tf hl hli hcs i2 i4
theorem sH{E r K:Nat}{a:As}(al:AB a)(hc:bD a.rs=0)(tw:Tw (llq a.rs) r)(hK:eB r (llq a.rs).length<=K){body pt:Int}(h1:bA body l.bo.length=true)(h2:bA pt (cJ l body).length=true)(hb:Pd E a body) :
  Bz (3*E+2*s+2*K+10) (bf l a body pt).1/\Bz (3*E+2*s+2*K+10) (bf l a body pt).2:=by
 obtain⟨n,k,bd,m,b,hp⟩:=tM hl hli al hc h1 h2 hb;obtain⟨c1,c2⟩:=hcs bd (mem_of_getElem? hp.mp.gbd) m (mem_of_getElem? hp.mp.gm);have h:=uR tw hp.ok c1 c2;have hk:kB r (llq a.rs).length<=K:=hK;unfold bf Bz;rw[hp.eq];exact⟨h.1.mono oz,h.2.mono oz⟩
theorem sF{E r K:Nat}{a:As}(al:AB a)(hc:bD a.rs=0)(tw:Tw (llq a.rs) r)(hK:eB r (llq a.rs).length<=K){i:Nat}{j:Jt}(hj:l.jo[i]?=some j){b:Int}(h:PinP E l a j b) :
  Bz (3*E+2*s+2*K+10) (aB l a j b).1/\Bz (3*E+2*s+2*K+10) (aB l a j b).2:=by
 obtain⟨i1,i2,i3,i4,_⟩:=cU hli hj;unfold aB;rcases h.tie with⟨e,hb⟩ |⟨e,e2,hb⟩
 ·rw[if_pos e];exact sH hl hli hcs al hc tw hK i2 i4 hb
 ·rw[if_neg e];exact sH hl hli hcs al hc tw hK i1 i3 hb
end
theorem Bz.upX{ts us:LL}{e:Nat}{x:Et ts}(h:Bz e x)(h1:ts.length<=us.length)(h5:us.length<=5):Bz e (dE us (sX x)):=pq ⟨h5,Nl.mono h.nl h1,h.cb⟩
theorem AC{s:Nat}{p q:Rat×Rat}(hp:Sm s p)(hq:Sm s q):Cb (8*s+5) [bt p q]:=by
 have h:=(hp.sub hq).dot (hp.sub hq);exact Cb.one (h.mono oz)
abbrev wZ(a b K K' I J:Nat):Nat:=14*a+3*b+5*K+3*K'+I+J+25
abbrev oZ(s a b K K' I J:Nat):Nat:=a+4*wZ a b K K' I J+26*s+18
theorem zx{n a b ec ex e:Nat}{p:Pq}(h:Pz n ec ex p)(h1:ec<=e)(h2:ex<=e):Pq.ok n e p:=⟨h.c.mono h1,h.s.mono h1,h.x.mono h2,h.y.mono h2⟩
section
variable{ts:LL}{r a b X K K' I J:Nat}(Z:Szs ts.length r a b X K K' I J)(tw:Tw ts r)
include Z tw
theorem HM{s:Nat}{m:Mt}(hx:Xz ts r X m.ts)(hm:∀x∈m.ps,Nm m.ts.length (13*a+2*b+5*K+2*K'+I+J+20) x.1/\Nm m.ts.length (13*a+2*b+5*K+2*K'+I+J+20) x.2){hs:List Hd}
  (hh:∀h∈hs,Sm s h.p/\Sm s h.c/\bX (co h.c h.p) (co h.c h.p)≠0/\∃o:P2 ts,h.a=P2.l o/\Bz a o.1/\Bz a o.2) :
  ∀sv∈jA m hs,Xz ts r X sv.ts/\∀p∈sv.ps,Pq.ok sv.ts.length (oZ s a b K K' I J) p:=by
 have _:=Z;have _:=tw;intro sv h1;unfold jA at h1;obtain⟨i,hi,rfl⟩:=List.mem_map.1 h1;obtain⟨x,hxx⟩:=aw (List.mem_range.1 hi);obtain⟨n1,n2⟩:=hm x (mem_of_getElem? hxx);refine⟨hx,fun p hp=>?_⟩;unfold jB at hp;rw[ao hxx]at hp;obtain⟨h,h2,rfl⟩:=List.mem_map.1 hp;obtain⟨hp1,hc1,h0,o,ea,o1,o2⟩:=hh h h2;have h5:=hx.tw.five;have u1:=o1.upX hx.up h5;have u2:=o2.upX hx.up h5;have w1:=pq n1;have w2:=pq n2;have e1:h.a.1=sX o.1:=by rw[ea]
 have e2:h.a.2=sX o.2:=by rw[ea]
 have z:=Ij (ts:=m.ts) (u:=co h.c h.p) (p:=h.p) (w:=i7 m.ts h x) (o:=kj m.ts h) (e:=13*a+2*b+5*K+2*K'+I+J+20+a+1) (f:=a) (hc1.sub hp1) hp1 h0
  (by unfold i7;rw[e1];exact w1.sub u1) (by unfold i7;rw[e2];exact w2.sub u2) (by unfold kj;rw[e1];exact u1) (by unfold kj;rw[e2];exact u2)
 exact zx (a:=a) (b:=b) z (by show _<=a+4*(14*a+3*b+5*K+3*K'+I+J+25)+26*s+18;omega) (by show _<=a+4*(14*a+3*b+5*K+3*K'+I+J+25)+26*s+18;omega)
theorem Te{s:Nat}{us:LL}(hx:Xz ts r X us){R:Rp}{q:List Rat}(hv:Sm (2*s+1) R.v)(hp:Sm s R.p)(h0:bX R.v R.v≠0)(hq:Bz 1 (dE us q))(w1:Bz (2*a+1) (dE us R.w.1))(w2:Bz (2*a+1) (dE us R.w.2))(hh:Bz b (dE us R.h))
  (hd:Bz J (iE (dE us R.d))) (a1:Bz a (dE us R.a.1)) (a2:Bz a (dE us R.a.2)):Pq.ok us.length (oZ s a b K K' I J) (m7 us R q):=by
 have _:=tw;have hkx:=Z.kx hx.ln;have x1:=(((hq.mul hx.tw hkx w1).sub (hh.mul hx.tw hkx w2.neg)).mul hx.tw hkx hd)
 have x2:=(((hq.mul hx.tw hkx w2).sub (hh.mul hx.tw hkx w1)).mul hx.tw hkx hd)
 have z:=Ij (ts:=us) (u:=R.v) (p:=R.p) (w:=mF us q R.h R.d R.w) (o:=(dE us R.a.1,dE us R.a.2)) (e:=wZ a b K K' I J) (f:=a) hv hp h0
  (x1.mono (by show _<=14*a+3*b+5*K+3*K'+I+J+25;omega)) (x2.mono (by show _<=14*a+3*b+5*K+3*K'+I+J+25;omega)) a1 a2
 exact zx (a:=a) (b:=b) z (by show _<=a+4*(14*a+3*b+5*K+3*K'+I+J+25)+26*s+18;simp only[wZ];omega) (by show _<=a+4*(14*a+3*b+5*K+3*K'+I+J+25)+26*s+18;simp only[wZ];omega)
end
section
variable{s r b X K K' I J E:Nat}{l:Li}{a:As}(D:DyR l a)(hn:(llq a.rs).length<=1)(hcs:Cs s l)(tw:Tw (llq a.rs) r)
  (Z:Szs (llq a.rs).length r (3*E+2*s+2*K+10) b X K K' I J) (hb:8*s+5<=b)
include D hn hcs tw Z hb
theorem QU{g:Gr}{i k z0 z1 z2:Int}{j0 j1 j2:Jt}(P:RrrP E l a g i k z0 z1 z2 j0 j1 j2) :
  ∀sv∈je l a i k j0 j1 j2,Xz (llq a.rs) r X sv.ts/\∀p∈sv.ps,Pq.ok sv.ts.length (oZ s (3*E+2*s+2*K+10) b K K' I J) p:=by
 have _:=hn;have hq0:=oJ D.hl D.li hcs P.h0 P.p0.or;have hq1:=oJ D.hl D.li hcs P.h1 P.p1.or;have hq2:=oJ D.hl D.li hcs P.h2 P.t1;have hq3:=oJ D.hl D.li hcs P.h2 P.t2;obtain⟨y1,y2⟩:=sF D.hl D.li hcs D.al D.hc tw Z.hK P.h0 P.p0;obtain⟨y3,y4⟩:=sF D.hl D.li hcs D.al D.hc tw Z.hK P.h1 P.p1;have z1:Bz b (qE (bt (am l j2 i) (am l j0 i)):Et (llq a.rs)):=Bz.q tw.five ((AC hq2 hq0).mono hb);have z2:Bz b (qE (bt (am l j2 k) (am l j1 k)):Et (llq a.rs)):=Bz.q tw.five ((AC hq3 hq1).mono hb);unfold je
 by_cases h1:f6 [co (am l j2 i) (am l j0 i),co (am l j2 k) (am l j1 k)]=true
 ·rw[if_pos h1];intro sv h;cases h
 ·rw[if_neg h1];obtain⟨w1,w2⟩:=rc (Bool.eq_false_iff.2 h1)
  by_cases h2:fw (aB l a j0 i) (aB l a j1 k) (qE (bt (am l j2 i) (am l j0 i))) (qE (bt (am l j2 k) (am l j1 k)))≠0
  ·rw[if_pos h2];intro sv h;cases h
  ·rw[if_neg h2];obtain⟨hx,hm⟩:=N0 Z tw y1 y2 y3 y4 z1 z2 (Decidable.not_not.1 h2);exact HM Z tw hx hm (lD ⟨hq0,hq2,w1,_,rfl,y1,y2⟩ ⟨hq1,hq3,w2,_,rfl,y3,y4⟩)
theorem Ng{g:Gr}{i z0 z1:Int}{j0 j:Jt}(P:SlP E l a g 2 i z0 z1 j0 j)(ha:j.a=i)(hbd:Pd E a j.b) :
  ∀sv∈jC l a i j0 j,Xz (llq a.rs) r X sv.ts/\∀p∈sv.ps,Pq.ok sv.ts.length (oZ s (3*E+2*s+2*K+10) b K K' I J) p:=by
 have _:=hn;obtain⟨i1,i2,i3,i4,i5⟩:=cU D.li P.h1;have hq2:Sm s (aS l i j.point):=by rw[<- ha];exact tf D.hl D.li hcs i1 i3
 have hq0:=oJ D.hl D.li hcs P.h0 P.p0.or;obtain⟨y1,y2⟩:=sF D.hl D.li hcs D.al D.hc tw Z.hK P.h0 P.p0;obtain⟨y3,y4⟩:=sH D.hl D.li hcs D.al D.hc tw Z.hK i2 i4 hbd;obtain⟨y5,y6⟩:=sH D.hl D.li hcs D.al D.hc tw Z.hK i2 (i5 P.hk) hbd;have z1:Bz b (qE (bt (aS l i j.point) (am l j0 i)):Et (llq a.rs)):=Bz.q tw.five ((AC hq2 hq0).mono hb);unfold jC
 by_cases h1:f6 [co (aS l i j.point) (am l j0 i)]=true
 ·rw[if_pos h1];intro sv h;cases h
 ·rw[if_neg h1];have w1:=tW (Bool.eq_false_iff.2 h1)
  by_cases h2:fC (bf l a j.b j.on) (bf l a j.b j.to)≠0
  ·rw[if_pos h2];intro sv h;cases h
  ·rw[if_neg h2];obtain⟨hx,hm⟩:=KR Z tw y3 y4 y5 y6 y1 y2 z1 (Decidable.not_not.1 h2);exact HM Z tw hx hm (ii ⟨hq0,hq2,w1,_,rfl,y1,y2⟩)
theorem Pb{g:Gr}{i z0 z1:Int}{j0 j:Jt}(P:SlP E l a g 3 i z0 z1 j0 j)(hj:j.b=i)(hbd:Pd E a j.a) :
  ∀sv∈jq l a i j0 j,Xz (llq a.rs) r X sv.ts/\∀p∈sv.ps,Pq.ok sv.ts.length (oZ s (3*E+2*s+2*K+10) b K K' I J) p:=by
 obtain⟨i1,i2,i3,i4,i5⟩:=cU D.li P.h1;have hs0:=oJ D.hl D.li hcs P.h0 P.p0.or;have hs1:Sm s (aS l i j.on):=by rw[<- hj];exact tf D.hl D.li hcs i2 i4
 have hs2:Sm s (aS l i j.to):=by rw[<- hj];exact tf D.hl D.li hcs i2 (i5 P.hk)
 have hv:Sm (2*s+1) (cq l i j):=(hs2.sub hs1).mono oz;have qn:Cb b [gY l i j]:=(Cb.one (hv.dot hv)).mono oz;have qh:Cb b [cc l i j0 j]:=(Cb.one (hv.cross (hs1.sub hs0))).mono oz;obtain⟨o1,o2⟩:=sF D.hl D.li hcs D.al D.hc tw Z.hK P.h0 P.p0;obtain⟨p1,p2⟩:=sH D.hl D.li hcs D.al D.hc tw Z.hK i1 i3 hbd;have w1:Bz (2*(3*E+2*s+2*K+10)+1) (bS l a i j0 j).1:=Bz.mono (p1.sub o1) oz;have w2:Bz (2*(3*E+2*s+2*K+10)+1) (bS l a i j0 j).2:=Bz.mono (p2.sub o2) oz;have hd:Bz (8*(3*E+2*s+2*K+10)+2*K+8) (b7 l a i j0 j):=Bz.mono (zB Z tw (p:=aB l a j0 i) (q:=bf l a j.a j.point) o1 o2 p1 p2) oz;have hX:Bz X (bb l a i j0 j):=Bz.mono ((hd.qm qn).sub ((Bz.q tw.five qh).qm qh)) (by have:=Z.hX;omega);have h0:=xf D.li P.h1 P.hk hj;unfold jq
 by_cases h1:an (b7 l a i j0 j)=0/\an (qE (cc l i j0 j):Et (llq a.rs))=0
 ·rw[if_pos h1];intro sv h;cases h
 ·rw[if_neg h1]
  by_cases h2:an (bb l a i j0 j)<0
  ·rw[if_pos h2];intro sv h;cases h
  ·rw[if_neg h2];have hd0:an (b7 l a i j0 j)≠0:=tU tw h2 h1
   have key:∀us,Xz (llq a.rs) r X us->Bz J (iE (dE us (sX (b7 l a i j0 j))))->∀q,Bz 1 (dE us q)->Pq.ok us.length (oZ s (3*E+2*s+2*K+10) b K K' I J) (m7 us (dg l a i j0 j) q):=by
    intro us hx hi q hq;have h5:=hx.tw.five
    have hh:Bz b (dE us (sh 0 (cc l i j0 j:Rat))):=by
     have e:dE us (sh 0 (cc l i j0 j:Rat))=qE (cc l i j0 j):=gE _ _;rw[e];exact Bz.q h5 qh
    exact Te Z tw hx (R:=dg l a i j0 j) hv hs0 h0 hq (w1.upX hx.up h5) (w2.upX hx.up h5) hh hi (o1.upX hx.up h5) (o2.upX hx.up h5)
   by_cases h3:0<an (bb l a i j0 j)
   ·rw [if_pos h3];have hx:=wN tw hn Z.hL hX oz;have hi:=Am Z tw hX (by omega:0 <= an (bb l a i j0 j)) hd hd0;have rt:=Bc Z tw (x:=bb l a i j0 j);have k:=key _ hx hi;intro sv h;unfold jI at h;obtain ⟨n,hn2,rfl⟩:=List.mem_map.1 h;refine ⟨hx,fun p hp=>?_⟩;unfold iQ at hp;rw [List.mem_singleton.1 hp]
    match n,List.mem_range.1 hn2 with
    |0,_=>exact k _ rt
    |1,_ =>
     refine k _ ?_;show Bz 1 (dE _ (sX (-ba (bb l a i j0 j))));have e:dE (aR (llq a.rs) (sX (bb l a i j0 j))) (sX (-ba (bb l a i j0 j)))=-ba (bb l a i j0 j):=bn _ _;rw[e];exact rt.neg
   ·rw[if_neg h3];have hx:=yu (X:=X) tw Z.hL;have e:dE (llq a.rs) (sX (b7 l a i j0 j))=b7 l a i j0 j:=bn _ _
    have hi:Bz J (iE (dE (llq a.rs) (sX (b7 l a i j0 j)))):=by
     rw[e];exact(yy Z tw hd hd0).mono Z.ij
    have k:=key _ hx hi;intro sv h;unfold jI at h;obtain⟨n,hn2,rfl⟩:=List.mem_map.1 h;refine⟨hx,fun p hp=>?_⟩;unfold iQ at hp;rw[List.mem_singleton.1 hp]
    match n,List.mem_range.1 hn2 with
    |0,_=>exact k _ (pq ⟨tw.five,.inl rfl,⟨1,0,⟨by decide,fun q h=>by cases h⟩,by decide,by decide⟩⟩)
end
theorem EQ{k:List Bool}{i:Nat}{b:Int}(h:kn (k.set i true) b=true):kn k b=true\/i=b.toNat:=by
 unfold kn at h ⊢
 by_cases e:i=b.toNat
 ·exact .inr e
 ·rw[getD_eq_getElem?_getD,List.getElem?_set_ne e,<- getD_eq_getElem?_getD]at h;exact .inl h
theorem yj:∀(bs:List Int){k:List Bool}{b:Int},kn (bw k bs) b=true->kn k b=true\/∃x∈bs,x.toNat=b.toNat
 |[],k,b,h=>.inl h
 |x::bs,k,b,h=>by
  have h:kn (bw (k.set x.toNat true) bs) b=true:=h;rcases yj bs h with h |⟨y,hy,e⟩
  ·rcases EQ h with h |h
   ·exact .inl h
   ·exact .inr ⟨x,mem_cons_self,h⟩
  ·exact .inr ⟨y,mem_cons_of_mem _ hy,e⟩
def r5(l:Li)(kw:List Bool)(out:List Gr):Prop:=∀d∈l.dv,kn kw d.body=true->∃g∈out,g.kind=0/\g.bo=[d.body]
theorem O7{l:Li}{d:Dr}(hd:d∈l.dv){b:Int}(h:d.body=b):lV l b=true:=by
 unfold lV;rw[List.any_eq_true];exact⟨d,hd,by simp[h]⟩
theorem CR{l:Li}{kw:List Bool}{g:Gr}(h:pairG l kw=some g):∀x∈g.bo,freeB l kw x=true:=by
 unfold pairG at h;rw[map_eq_some_iff]at h;obtain⟨i,hi,h⟩:=h;obtain⟨h1,h2⟩:=fp hi;split at h
 ·rename_i k hk;subst h;unfold prAt at hk;rw [map_eq_some_iff] at hk;obtain ⟨k',hk',rfl⟩:=hk;obtain ⟨h3,h4⟩:=fp hk';rw [show i + 1 + k' = k' + (i + 1) by omega] at h4;unfold prHit at h4;simp only [Bool.not_eq_false',and_eq_true,decide_eq_true_eq] at h4;obtain ⟨⟨f1,f2⟩,_⟩:=h4;intro x hx;simp only [prG,mem_cons,not_mem_nil,or_false] at hx;rcases hx with rfl | rfl
  ·exact f1
  ·exact f2
 ·rename_i hk;rw[hk]at h2;cases h2
theorem D9{l:Li}{kw:List Bool}{g:Gr}(h:singleG l kw=some g):∀x∈g.bo,freeB l kw x=true:=by
 unfold singleG at h;rw[map_eq_some_iff]at h;obtain⟨i,hi,rfl⟩:=h;obtain⟨h1,h2⟩:=fp hi;unfold sgHit at h2;simp only[Bool.not_eq_false',and_eq_true,decide_eq_true_eq]at h2;intro x hx;simp only[sgG,mem_cons,not_mem_nil,or_false]at hx;subst hx;exact h2.1
theorem Vs{l:Li}(hl:aD l=0){kw:List Bool}{out:List Gr}{g:Gr}(h:r5 l kw out)(hg:nextG l kw=some g):r5 l (bw kw g.bo) (out++[g]):=by
 intro d hd hk;have ho:=uF hl hg;rcases yj g.bo hk with h1 |⟨x,hx,e⟩
 ·obtain⟨g',h2,h3⟩:=h d hd h1;exact⟨g',List.mem_append_left _ h2,h3⟩
 ·obtain ⟨i, hi⟩:=getElem?_of_mem hd;have hb:=cT (kI hl hi);have hx0:=(ho.b x hx).1;have ex:d.body = x:=by omega
  unfold nextG at hg;cases h1:driverG l kw with
  |some g' =>
   rw[h1]at hg;cases hg
   refine⟨g,List.mem_append_right _ (List.mem_singleton.2 rfl),?_⟩;unfold driverG at h1;rw[map_eq_some_iff]at h1;obtain⟨i,_,rfl⟩:=h1;refine⟨rfl,?_⟩;rw[List.mem_singleton.1 hx]at ex;rw[ex]
  |none =>
   rw[h1]at hg
   have hf:freeB l kw x=true:=by
    cases h2:pairG l kw with
    |some g'=>rw[h2]at hg;cases hg;exact CR h2 x hx
    |none=>rw[h2]at hg;exact D9 hg x hx
   unfold freeB at hf;rw[O7 hd ex]at hf;simp at hf
theorem HF{l:Li}(hl:aD l=0):∀(n:Nat)(kw:List Bool)(out:List Gr),r5 l kw out->r5 l (findFrom l n kw out).1 (findFrom l n kw out).2
 |0,kw,out,h=>h
 |n+1,kw,out,h=>by
  unfold findFrom;cases hg:nextG l kw with
  |none=>exact h
  |some g=>exact HF hl n _ _ (Vs hl h hg)
theorem wB{l:Li}(hl:aD l=0){i:Nat}{d:Dr}(hd:l.dv[i]?=some d):d.body≠0/\∀j d',j<i->l.dv[j]?=some d'->d'.body≠d.body:=by
 have h1:=(cV hl).2.2.1;unfold fV at h1;split at h1
 ·cases h1
 ·have h2:=qo h1 i (List.getElem?_eq_some_iff.1 hd).1;unfold dY at h2;rw[ao hd]at h2;split at h2
  ·cases h2
  ·split at h2
   ·cases h2
   ·split at h2
    ·cases h2
    ·split at h2
     ·cases h2
     ·rename_i h4;split at h2
      ·cases h2
      ·rename_i h5;refine⟨h4,fun j d' hj hd' e=>h5 ?_⟩;rw[List.any_eq_true];exact⟨d',mem_of_getElem? (by rw[getElem?_take,if_pos hj];exact hd'),by simpa using e⟩
theorem DR{α:Type}{p:α->Bool}:∀{l:List α}{x y:α},x∈l->y∈l->x≠y->p x=true->p y=true->2<=l.countP p
 |z::l,x,y,hx,hy,hn,px,py=>by
  have pos:∀w,w∈l->p w=true->0<l.countP p:=fun w hw pw=>List.countP_pos_iff.2 ⟨w,hw,pw⟩
  rcases List.mem_cons.1 hx with e |hx
  ·rcases List.mem_cons.1 hy with e2 |hy
   ·exact absurd (e.trans e2.symm) hn
   ·have h9:=pos y hy py;rw[List.countP_cons_of_pos (e▸px)];omega
  ·rcases List.mem_cons.1 hy with e |hy
   ·have h9:=pos x hx px;rw[List.countP_cons_of_pos (e▸py)];omega
   ·have:=DR hx hy hn px py;rw[List.countP_cons];omega
theorem ud{l:Li}(hl:aD l=0):l.dv.length<=2:=by
 have h1:=(cV hl).2.2.1;unfold fV at h1;split at h1
 ·cases h1
 ·omega
theorem EA{l:Li}(hl:aD l=0)(hs:splitE l=0):∀d∈l.dv,∃g∈splitG l,g.kind=0/\g.bo=[d.body]:=by
 have h0:r5 l (cD l.bo.length 0) []:=by
  intro d hd hk;obtain⟨i,hi⟩:=getElem?_of_mem hd;have hb:=cT (kI hl hi);rw[nN oz oz oz]at hk;exact absurd (of_decide_eq_true hk) (wB hl hi).1
 have h1:=HF hl l.bo.length _ _ h0;rw[Hx]at h1;intro d hd;obtain⟨i,hi⟩:=getElem?_of_mem hd;have hb:=cT (kI hl hi)
 have hz:(eD (bU l)).length=0:=by
  unfold splitE at hs;split at hs
  ·omega
  ·cases hs
 rw[uw]at hz
 have hlen:(bU l).length=l.bo.length:=by
  have:∀(gs:List Gr)(k:List Bool),(gs.foldl (fun k g=>bw k g.bo) k).length=k.length:=by
   intro gs
   induction gs with
   |nil=>intro k;rfl
   |cons g gs ih=>intro k;rw[foldl_cons,ih,iW]
  unfold bU;rw[this,gS]
 have hk:kn (bU l) d.body=true:=by
  unfold kn;rw[getD_eq_getElem?_getD,getElem?_eq_getElem (by omega:d.body.toNat<(bU l).length)];show(bU l)[d.body.toNat]=true;cases hv:(bU l)[d.body.toNat]'oz with
  |true=>rfl
  |false =>
   exfalso;have hm:false∈bU l:=hv▸getElem_mem _;rw[<- List.contains_iff_mem]at hm;rw[hm]at hz;cases hz
 obtain⟨g,hg,h2⟩:=h1 d hd hk;refine⟨g,?_,h2⟩;unfold splitG;rw[if_pos hs];exact hg
theorem TM{l:Li}(hl:aD l=0)(hs:splitE l=0):l.dv.length<=(splitG l).countP (fun g=>decide (g.kind=0)):=by
 have h2:=ud hl;have hg:=EA hl hs
 match hd:l.dv with
 |[]=>simp
 |[d] =>
  obtain⟨g,h3,h4,_⟩:=hg d (by rw[hd];simp);exact List.countP_pos_iff.2 ⟨g,h3,by simpa using h4⟩
 |[d,d'] =>
  obtain⟨g,h3,h4,h5⟩:=hg d (by rw[hd];simp);obtain⟨g',h3',h4',h5'⟩:=hg d' (by rw[hd];simp);refine DR h3 h3' ?_ (by simpa using h4) (by simpa using h4');intro e;rw[e,h5']at h5;exact(wB hl (i:=1) (d:=d') (by rw[hd];rfl)).2 0 d oz (by rw[hd];rfl) (by simpa using h5.symm)
 |_::_::_::_=>rw[hd]at h2;simp only[length_cons]at h2;omega
structure Aq where
  ts:LL
  bs:List Pq
  ms:List Int
instance:Inhabited Pq:=⟨⟨[],[],[],[]⟩⟩
instance:Inhabited Aq:=⟨⟨[],[],[]⟩⟩
def Pq.pl(p:Pq):Pl:=⟨p.c.map rt,p.s.map rt,p.x.map rt,p.y.map rt⟩
def Aq.as(a:Aq):As:=⟨a.ts.map (List.map rt),a.bs.map Pq.pl,a.ms⟩
theorem Pq.pl_av(p:Pq):p.pl.av=p.av:=by unfold Pl.av Pq.av Pq.pl;rw[fh,fh,fh,fh]
abbrev Aq.cs(a:Aq):List AV:=[.lst 1 (a.ts.map nA),.lst 4 (a.bs.map Pq.av),.lst 1 (a.ms.map i64)]
abbrev Aq.av(a:Aq):AV:=.agg a.cs
theorem Aq.as_av(a:Aq):a.as.av=a.av:=by
 unfold As.av Aq.as Aq.av Aq.cs;rw[map_map,map_map];congr 3
 ·exact List.map_congr_left (fun x _=>fh x)
 ·congr 1;exact List.map_congr_left (fun x _=>Pq.pl_av x)
theorem Aq.llq(a:Aq):Lw.llq a.as.rs=a.ts:=qJ _
def aZ(bs:List Pq)(is:List Int)(ps:List Pq):List Pq:=(is.zip ps).foldl (fun k x=>k.set x.1.toNat x.2) bs
def Aq.nxt(a:Aq)(g:Gr)(s:Sv):Aq:=⟨s.ts,aZ a.bs g.bo s.ps,a.ms++[s.mode]⟩
def bj:Pq:=⟨[],[],[],[]⟩
def kg:Pq:=⟨[1],[],[],[]⟩
def eL(l:Li):Aq:=⟨[],(List.replicate l.bo.length bj).set 0 kg,[]⟩
def dQ:Tn:=⟨⟨false,[],[]⟩,false⟩
def bV(g:Gr)(xs:List Tn):Tn:=if g.kind=0 then xs.getD g.driver.toNat dQ else dQ
theorem Do:∀(zs:List (Int×Pq))(bs:List Pq),(zs.foldl (fun k x=>k.set x.1.toNat x.2) bs).length=bs.length
 |[],bs=>rfl
 |z::zs,bs=>by rw[foldl_cons,Do zs,length_set]
theorem CB:∀(zs:List (Int×Pq))(bs:List Pq)(p:Pq),p∈zs.foldl (fun k x=>k.set x.1.toNat x.2) bs->p∈bs\/∃z∈zs,z.2=p
 |[],bs,p,h=>.inl h
 |z::zs,bs,p,h=>by
  rw[foldl_cons]at h;rcases CB zs _ p h with h |⟨z',hz,e⟩
  ·rcases List.mem_or_eq_of_mem_set h with h |h
   ·exact .inl h
   ·exact .inr ⟨z,mem_cons_self,h.symm⟩
  ·exact .inr ⟨z',mem_cons_of_mem _ hz,e⟩
theorem vM(bs:List Pq)(is:List Int)(ps:List Pq):(aZ bs is ps).length=bs.length:=Do _ _
theorem IK{bs:List Pq}{is:List Int}{ps:List Pq}{p:Pq}(h:p∈aZ bs is ps):p∈bs\/p∈ps:=by
 rcases CB _ _ _ h with h |⟨z,hz,e⟩
 ·exact .inl h
 ·exact .inr (e▸(List.of_mem_zip hz).2)
theorem RR{bs:List Pq}{is:List Int}{ps:List Pq}{i:Nat}{b:Int}{p:Pq}(hb:is[i]?=some b)(hp:ps[i]?=some p) :
  aZ bs (is.take (i+1)) (ps.take (i+1))=(aZ bs (is.take i) (ps.take i)).set b.toNat p:=by
 have h1:is.take (i+1)=is.take i++[b]:=by rw[List.take_add_one,hb];rfl
 have h2:ps.take (i+1)=ps.take i++[p]:=by rw[List.take_add_one,hp];rfl
 have hl1:=(List.getElem?_eq_some_iff.1 hb).1;have hl2:=(List.getElem?_eq_some_iff.1 hp).1;unfold aZ;rw[h1,h2,List.zip_append (by rw[length_take,length_take];omega),List.foldl_append];rfl
def kG(s j r E:Nat):Nat:=3*E+2*s+2*eB r j+10
def j9(s j r E:Nat):Nat:=24*kG s j r E+8*eB r j+5*(8*s+5)+23
def G4(s j r E:Nat):Nat:=iB r j (8*kG s j r E+2*eB r j+8)
def vi(s j r E:Nat):Nat:=iB (r+j9 s j r E) j (8*kG s j r E+2*eB r j+8)
def rV(s j r E:Nat):Nat:=oZ s (kG s j r E) (8*s+5) (eB r j) (eB (r+j9 s j r E) (j+1)) (G4 s j r E) (vi s j r E)
def mn(s g j r E:Nat):Nat:=kG s j r E+2*g+2*s+4
def eU(s g:Nat):Nat->Nat->Nat->Nat->Nat->Bool
  |0,_,j,r,E=>decide (E<=3200000000/\r<=400000000/\j<=2)
  |n+1,y,j,r,E=>decide (E<=3200000000/\r<=400000000/\j<=2)&&(eU s g n y j r (mn s g j r E) &&
      (decide (y=0)||(decide (j<=1/\E<=3900000/\r<=64990/\r+j9 s j r E<=5000000000/\vi s j r E<=50000000000)&&eU s g n (y-1) (j+1) (r+j9 s j r E) (rV s j r E))))
theorem Di:eU 32 134 3 1 0 0 2=true:=by decide +kernel
theorem VY:eU 9 42 4 2 0 0 2=true:=by decide +kernel
theorem tZ{s g n y j r E:Nat}(h:eU s g n y j r E=true):E<=3200000000/\r<=400000000/\j<=2:=by
 cases n with
 |zero=>exact of_decide_eq_true h
 |succ n =>
  unfold eU at h;simp only[and_eq_true,decide_eq_true_eq]at h;exact⟨h.1.1,h.1.2.1,h.1.2.2⟩
theorem Vi{s g n y j r E:Nat}(h:eU s g n y j r E=true):E<=50000000000/\r<=400000000/\j<=2:=by
 have:=tZ h;omega
theorem rP{s g n y j r E:Nat}(h:eU s g (n+1) y j r E=true):(E<=20000000000/\r<=400000000/\j<=2)/\eU s g n y j r (mn s g j r E)=true:=by
 unfold eU at h;simp only[and_eq_true,decide_eq_true_eq]at h;exact⟨⟨by omega,h.1.2⟩,h.2.1⟩
theorem sS{s g n y j r E:Nat}(h:eU s g (n+1) (y+1) j r E=true):(j<=1/\E<=3900000/\r<=64990/\r+j9 s j r E<=5000000000/\vi s j r E<=50000000000)/\eU s g n y (j+1) (r+j9 s j r E) (rV s j r E)=true:=by
 unfold eU at h;simp only[and_eq_true,or_eq_true,decide_eq_true_eq,Nat.add_sub_cancel]at h;rcases h.2.2 with h1 |h1
 ·omega
 ·exact h1
structure QInv(l:Li)(j r E:Nat)(a:Aq):Prop where
  tw:Tw a.ts r
  lv:a.ts.length<=j
  bs:∀p∈a.bs,Pq.ok a.ts.length E p
  ln:a.bs.length=l.bo.length
theorem Pq.ok.up{n n' e e':Nat}{p:Pq}(h:Pq.ok n e p)(hn:n<=n')(h5:n'<=5)(he:e<=e'):Pq.ok n' e' p :=
 ⟨⟨h5,h.c.nl.mono hn,h.c.cb.mono he⟩,⟨h5,h.s.nl.mono hn,h.s.cb.mono he⟩,⟨h5,h.x.nl.mono hn,h.x.cb.mono he⟩,⟨h5,h.y.nl.mono hn,h.y.cb.mono he⟩⟩
theorem Pq.ok.lv{n m e:Nat}{p:Pq}(h:Pq.ok n e p)(hn:n=m):Pq.ok m e p:=hn▸h
theorem wj{r r':Nat}(h:r<=r'):∀j,eB r j<=eB r' j
 |0=>le_refl _
 |j+1=>by have:=wj h j;simp only[eB];omega
theorem B2{r r':Nat}(h:r<=r'):∀j e,iB r j e<=iB r' j e
 |0,e=>le_refl _
 |j+1,e=>by
  have h1:=wj h j;have h2:=wj h (j+1);have h3:=B2 h j (4*e+3*eB r j+r+1);have h4:=wM r' j (e:=4*e+3*eB r j+r+1) (f:=4*e+3*eB r' j+r'+1) oz;simp only[iB];omega
theorem w7:Pq.ok 0 2 bj:=by
 have h:Nm 0 2 []:=⟨by omega,.inl rfl,⟨1,0,⟨by decide,fun q h=>by cases h⟩,by decide,by decide⟩⟩
 exact⟨h,h,h,h⟩
theorem LI:Pq.ok 0 2 kg:=by
 have h:Nm 0 2 [1]:=⟨by omega,.inr ⟨0,le_refl _,rfl⟩,Cb.mono (Cb.int (z:=1) (e:=1) (by decide)) oz⟩
 exact⟨h,w7.c,w7.c,w7.c⟩
theorem DC:Tw [] 0:=⟨by decide,(fun j h=>by cases h),(fun j h=>by cases h),⟨1,1,by decide,(fun d h=>by cases h),by decide,by decide⟩,by omega⟩
theorem Cn(l:Li):QInv l 0 0 2 (eL l):=by
 refine⟨DC,le_refl _,fun p hp=>?_,by simp[eL]⟩;rcases List.mem_or_eq_of_mem_set hp with h |h
 ·rw[(List.mem_replicate.1 h).2];exact w7
 ·rw[h];exact LI
theorem Pq.ok.nr{n e:Nat}{p:Pq}(h:Pq.ok n e p)(he:e<=lm n):∀x∈p.pl.l,NR x e:=by
 intro x hx;simp only[Pl.l,Pq.pl,mem_cons,not_mem_nil,or_false]at hx;rcases hx with rfl |rfl |rfl |rfl
 ·exact h.c.rt he
 ·exact h.s.rt he
 ·exact h.x.rt he
 ·exact h.y.rt he
theorem Pq.ok.num{n e:Nat}{p:Pq}(h:Pq.ok n e p):∀x∈p.pl.l,cE n x=0:=by
 intro x hx;simp only[Pl.l,Pq.pl,mem_cons,not_mem_nil,or_false]at hx;rcases hx with rfl |rfl |rfl |rfl
 ·exact oI h.c.nl
 ·exact oI h.s.nl
 ·exact oI h.x.nl
 ·exact oI h.y.nl
section
variable{l:Li}{j r E:Nat}{a:Aq}(Q:QInv l j r E a)
include Q
theorem QInv.chk:bD a.as.rs=0:=Q.tw.chk
theorem QInv.mem{p:Pl}(h:p∈a.as.bs):∃q∈a.bs,q.pl=p:=by have _:=Q;exact List.mem_map.1 h
theorem QInv.nr(hE:E<=50000000000){p:Pl}(h:p∈a.as.bs):∀x∈p.l,NR x E:=by
 obtain⟨q,hq,rfl⟩:=Q.mem h;exact(Q.bs q hq).nr (le_trans hE (ki _))
theorem QInv.ab(hl:aD l=0)(hE:E<=50000000000)(hr:r<=400000000):AB a.as:=by
 refine⟨Q.tw.tr.mono hr oz,fun p hp x hx=>(Q.nr hE hp x hx).mono hE,?_,?_⟩
 ·show(a.ts.map _).length<=8;rw[length_map];have:=Q.tw.three;omega
 ·show(a.bs.map _).length<=30;rw[length_map,Q.ln];have:=(cV hl).2.2.2.1;omega
theorem QInv.sma(hE:E<=50000000000){F:Nat}(hF:E<=F)(k:Int)(own:Bool):vp F l k a.as own :=
 fun b _ _ p hp x hx=>(Q.nr hE (mem_of_getElem? hp) x hx).mono hF
theorem QInv.nd(hl:aD l=0){g:Gr}(hg:GrOk l g){own:Bool}:∀b∈cR l g own,gq a.as b=0:=by
 intro b hb;unfold gq;split
 ·rfl
 ·have h1:=AR hl hg b hb;obtain ⟨p,hp⟩:=aw (l:=a.bs) (i:=b.toNat) (by rw [Q.ln]; omega);have e:a.as.bs[b.toNat]? = some p.pl:=by show (a.bs.map Pq.pl)[b.toNat]? = _; rw [getElem?_map,hp]; rfl
  rw[ao e];unfold bN;rw[if_neg (by rw[Q.chk];simp)];have e2:a.as.rs.length=a.ts.length:=length_map _;rw[e2];exact qD (fun x hx=>(Q.bs p (mem_of_getElem? hp)).num x hx)
theorem QInv.dy0(hl:aD l=0)(hs:splitE l=0){k:Nat}{g:Gr}(hg:(splitG l)[k]?=some g)(own:Bool):fy l k a.as own=0:=by
 have hk:=(List.getElem?_eq_some_iff.1 hg).1;obtain⟨_,ho⟩:=s8 hl (mem_of_getElem? hg);have hgA:iF l (k:Nat)=g:=ao hg;rw[qU hl,DL hs oz (by show(a.bs.map _).length=_;rw[length_map,Q.ln]) Q.chk,hgA];exact qD (fun b hb=>Q.nd hl ho b (yO.1 hb))
end
structure WkC(l:Li)(xs:List Tn)(s g:Nat):Prop where
  hl:l.ok
  li:aD l=0
  sp:splitE l=0
  cs:Cs s l
  ln:xs.length=l.dv.length
  ok:∀x∈xs,x.t.ok/\x.err=0/\Qb 1000 x.t.q/\Cb g [dM x.half x.t.q]/\Cb g [dH x.half x.t.q]
theorem ES{l:Li}{g:Gr}(h:DyK l g)(hk:g.kind=0):0<=g.driver/\g.driver<l.dv.length:=by
 cases h with
 | @drv b z d _ _ t d0 hd hb=>have:=(List.getElem?_eq_some_iff.1 hd).1;exact⟨d0,by show d<_;omega⟩
 |rrr=>exact absurd hk (by simp)
 |pr=>exact absurd hk (by simp)
 |rp=>exact absurd hk (by simp)
theorem AW:dQ.t.ok:=⟨(fun x h=>by cases h),(fun x h=>by cases h),zero_le _,zero_le _⟩
theorem Gs:Qb 1000 dQ.t.q:=by
 have e:dQ.t.q=0:=by decide +kernel
 rw[e];exact Qb.zero.mono oz
section
variable{l:Li}{xs:List Tn}{s g:Nat}(W:WkC l xs s g){k:Nat}{gr:Gr}(hg:(splitG l)[k]?=some gr)
include W hg
theorem WkC.grp:DyK l gr/\GrOk l gr:=s8 W.li (mem_of_getElem? hg)
theorem WkC.tn:(bV gr xs).t.ok/\Qb 1000 (bV gr xs).t.q/\(gr.kind=0->∃x∈xs,bV gr xs=x):=by
 unfold bV
 by_cases hk:gr.kind=0
 ·rw[if_pos hk];have h:=ES (W.grp hg).1 hk;obtain⟨x,hx⟩:=aw (l:=xs) (i:=gr.driver.toNat) (by rw[W.ln];omega);rw[ao hx];have hm:=mem_of_getElem? hx;exact⟨(W.ok x hm).1,(W.ok x hm).2.2.1,fun _=>⟨x,hm,rfl⟩⟩
 ·rw[if_neg hk];exact⟨AW,Gs,fun h=>absurd h hk⟩
variable{j r E:Nat}{a:Aq}(Q:QInv l j r E a)
include Q
theorem QInv.dyOk{F:Nat}(hE:E<=50000000000)(hF:E<=F):DyOk F l k a.as false k gr:=by
 obtain⟨i,g',h⟩:=Af (Q.sma hE hF k false) (Q.dy0 W.li W.sp hg false);have e:i=k:=by have:=h.hk;omega
 subst e;have:=h.hg;rw[hg]at this;cases this;exact h
theorem QInv.dyS(hr:r<=64990)(hj:j<=1):DyS a.as:=by have _:=W;have _:=hg;exact⟨Q.tw.tr.mono hr oz,fun _=>by rw[a.llq];exact le_trans Q.lv hj⟩
theorem QInv.dyW(hE:E<=50000000000)(hr:r<=400000000):DyW l a.as:=by have _:=hg;exact⟨W.hl,W.li,Q.ab W.li hE hr,Q.chk⟩
theorem QInv.twl:Tw (Lw.llq a.as.rs) r:=by have _:=W;have _:=hg;rw[a.llq];exact Q.tw
theorem QInv.drv{n y:Nat}(ok:eU s g (n+1) y j r E=true)(hk:gr.kind=0):∀sv∈dt l a.as gr (bV gr xs),QInv l j r (mn s g j r E) (a.nxt gr sv):=by
 obtain⟨⟨hE,hr,hj⟩,_⟩:=rP ok;have D:=QInv.dyW W hg Q oz hr;have O:=QInv.dyOk W hg Q (F:=E) oz (le_refl _);obtain⟨i,z0,d,j0,e,hj0,p0⟩:=xG O hk;obtain⟨_,_,hx⟩:=W.tn hg;obtain⟨x,hx,ex⟩:=hx hk;obtain⟨_,he,_,hc,hs⟩:=W.ok x hx;have hlen:(Lw.llq a.as.rs).length=a.ts.length:=by rw[a.llq]
 have tw:=QInv.twl W hg Q;have hq0:=oJ W.hl W.li W.cs hj0 p0.or;have hK:eB r (Lw.llq a.as.rs).length<=eB r j:=ip r (by rw[hlen];exact Q.lv);obtain⟨o1,o2⟩:=sF W.hl W.li W.cs D.al D.hc tw hK hj0 p0;rw[ex];unfold dt;rw[if_pos hk,e];show ∀sv∈jw l a.as i (l.jo.getD z0.toNat default) x,_;rw[ao hj0];unfold jw;rw[if_neg oz];have hp:=Jy (ts:=Lw.llq a.as.rs) (p:=am l j0 i) (o:=aB l a.as j0 i) hc hs hq0 tw.five o1 o2
 have hp2:Pq.ok a.ts.length (mn s g j r E) (kX l a.as i j0 x):=by
  have:=zx (a:=0) (b:=0) hp (e:=mn s g j r E) (by unfold mn kG;omega) (by unfold mn kG;omega);exact Pq.ok.lv this hlen
 refine ii ⟨?_,?_,?_,?_⟩
 ·exact tw
 ·show(Lw.llq a.as.rs).length<=j;rw[hlen];exact Q.lv
 ·intro p hp3;show Pq.ok (Lw.llq a.as.rs).length _ p;rw[hlen];rcases IK hp3 with h |h
  ·exact(Q.bs p h).up (le_refl _) Q.tw.five (by unfold mn kG;omega)
  ·rw[List.mem_singleton.1 h];exact hp2
 ·exact(vM _ _ _).trans Q.ln
theorem QInv.dy{n y:Nat}(ok:eU s g (n+1) (y+1) j r E=true)(hk:gr.kind≠0):∀sv∈dt l a.as gr (bV gr xs),QInv l (j+1) (r+j9 s j r E) (rV s j r E) (a.nxt gr sv):=by
 obtain⟨⟨hj,hE,hr,hX,hJ⟩,_⟩:=sS ok;have D:DyR l a.as:=⟨QInv.dyW W hg Q oz oz,QInv.dyS W hg Q hr hj⟩
 have O:=QInv.dyOk W hg Q (F:=E) oz (le_refl _);have hlen:(Lw.llq a.as.rs).length=a.ts.length:=by rw[a.llq]
 have hlv:(Lw.llq a.as.rs).length<=j:=by rw[hlen];exact Q.lv
 have tw:=QInv.twl W hg Q
 have Z:Szs (Lw.llq a.as.rs).length r (3*E+2*s+2*eB r j+10) (8*s+5) (j9 s j r E) (eB r j) (eB (r+j9 s j r E) (j+1)) (G4 s j r E) (vi s j r E):=by
  refine⟨by omega,ip r hlv,?_,hX,ip _ oz,?_,?_,hJ,?_,?_⟩
  ·unfold j9 kG;omega
  ·exact yw r _ hlv
  ·exact yw _ _ hlv
  ·exact le_trans (ip r oz) (wj oz _)
  ·exact B2 oz _ _
 have hn:(Lw.llq a.as.rs).length<=1:=by omega
 have key:∀sv∈dt l a.as gr (bV gr xs),Xz (Lw.llq a.as.rs) r (j9 s j r E) sv.ts/\∀p∈sv.ps,Pq.ok sv.ts.length (rV s j r E) p:=by
  unfold dt;rw[if_neg hk]
  by_cases hk1:gr.kind=1
  ·obtain⟨i,k2,z0,z1,z2,j0,j1,j2,P⟩:=O.rrr hk1;obtain⟨e0,e1,e2,b0,b1,_⟩:=P.at;rw[if_pos hk1,e0,e1,e2,b0,b1];exact QU D hn W.cs tw Z (le_refl _) P
  ·rw[if_neg hk1]
   by_cases hk2:gr.kind=2
   ·obtain⟨i,z0,z1,j0,j,P,ha,hb⟩:=O.pr hk2;obtain⟨e0,e1,b0,_⟩:=P.at;rw[if_pos hk2,e0,e1,b0];exact Ng D hn W.cs tw Z (le_refl _) P ha hb
   ·obtain⟨i,z0,z1,j0,j,P,_,hj,hb⟩:=O.rp hk hk1 hk2;obtain⟨e0,e1,b0,hk3⟩:=P.at;rw[if_neg hk2,e0,e1,b0];exact Pb D hn W.cs tw Z (le_refl _) P hj hb
 intro sv hsv;obtain⟨hx,hp⟩:=key sv hsv;have h5:=hx.tw.five;have hup:=hx.up;have hln:=hx.ln;rw[hlen]at hup hln;refine⟨hx.tw,?_,?_,?_⟩
 ·show sv.ts.length<=j+1;have:=Q.lv;omega
 ·intro p hp3;rcases IK hp3 with h |h
  ·exact(Q.bs p h).up hup h5 (by unfold rV oZ wZ kG;omega)
  ·exact hp p h
 ·exact(vM _ _ _).trans Q.ln
end
def kK(l:Li)(a:As)(g:Gr)(x:Tn):Nat:=(iY l a g x).2
def ez(F:Int->Bool)(sg:Bool)(f:Sv->List Aq×Nat):List Sv->List Aq×Nat
  |[]=>([],0)
  |s::r=>if F s.mode=false then ez F sg f r else if(f s).2≠0 then f s else if sg=true then f s else((f s).1++(ez F sg f r).1,(ez F sg f r).2)
def eI(F:Nat->Int->Bool)(sg:Bool)(l:Li)(xs:List Tn)(gs:List Gr):Nat->Aq->List Aq×Nat
  |0,a=>([a],0)
  |n+1,a=>if kK l a.as (gs.getD a.ms.length default) (bV (gs.getD a.ms.length default) xs)≠0 then([],kK l a.as (gs.getD a.ms.length default) (bV (gs.getD a.ms.length default) xs))
    else ez (F a.ms.length) sg (fun s=>eI F sg l xs gs n (a.nxt (gs.getD a.ms.length default) s)) (dt l a.as (gs.getD a.ms.length default) (bV (gs.getD a.ms.length default) xs))
theorem KA{l:Li}{xs:List Tn}{s g:Nat}(W:WkC l xs s g){k:Nat}{gr:Gr}(hg:(splitG l)[k]?=some gr){j r E:Nat}{a:Aq}(Q:QInv l j r E a){n y:Nat}(ok:eU s g (n+1) y j r E=true)(hy:gr.kind≠0->0<y) :
  SolP (dt l a.as gr (bV gr xs)) gr.kind a.ts.length gr.bo.length:=by
 obtain⟨⟨hE,hr,hj⟩,_⟩:=rP ok;have D:=QInv.dyW W hg Q oz hr;have h3:(Lw.llq a.as.rs).length<=2:=by rw[a.llq];have:=Q.lv;omega
 have hlen:(Lw.llq a.as.rs).length=a.ts.length:=by rw[a.llq]
 rw[<- hlen]
 by_cases hk:gr.kind=0
 ·exact Cp hE D h3 (QInv.dyOk W hg Q (F:=E) oz (le_refl _)) (fun h=>absurd hk h) (W.tn hg).2.1
 ·have hy:=hy hk;obtain ⟨y',rfl⟩:∃ y',y = y' + 1:=⟨y - 1,by omega⟩
  obtain⟨⟨hj,hE,hr,hX,hJ⟩,_⟩:=sS ok;exact Cp oz D h3 (QInv.dyOk W hg Q (F:=3900000) oz hE) (fun _=>⟨rfl,QInv.dyS W hg Q hr hj⟩) (W.tn hg).2.1
open Lean.Grind (CommRing)
theorem qV{ts:LL}(hp:fe ts){X:Et ts}(h:0<an X):fe (aR ts (sX X)):=by
 intro j hj;rw[dB]at hj;rw[xh oz];rcases lt_or_ge j ts.length with h9 |h9
 ·rw[uX h9];exact hp j h9
 ·have : j = ts.length := by omega
  subst this
  have e1:ax (aR ts (sX X)) ts.length=X:=by
   show ae ts.length ((aR ts (sX X)).getD ts.length [])=_;rw[tG,o9];exact bn _ _
  rw[e1];exact Int.le_of_lt h
def cF(T:LL)(p:Pq)(m:Rat×Rat):P2 T:=(dE T p.c*qE m.1-dE T p.s*qE m.2+dE T p.x,dE T p.s*qE m.1+dE T p.c*qE m.2+dE T p.y)
def CH(T:LL)(p:Pq):Prop:=an (dE T p.c*dE T p.c+dE T p.s*dE T p.s-1)=0
def aY(l:Li)(T:LL)(bs:List Pq)(b pt:Int):P2 T:=cF T (bs.getD b.toNat bj) (aS l b pt)
def JH(l:Li)(T:LL)(bs:List Pq)(j:Jt):Prop :=
  if j.kind=0 then an ((aY l T bs j.a j.point).1-(aY l T bs j.b j.on).1)=0/\an ((aY l T bs j.a j.point).2-(aY l T bs j.b j.on).2)=0
  else an (jv (aQ (aY l T bs j.b j.to) (aY l T bs j.b j.on)) (aQ (aY l T bs j.a j.point) (aY l T bs j.b j.on)))=0
theorem FK{ts:LL}{q:Rat}(h:q≠0):(iE (qE q)*qE q:Et ts)=1:=by
 have e:(iE (qE q):Et ts)=qE (1/q):=vH (ax ts) ts.length q;rw[e,<- l8,show 1/q*q=((1:Nat):Rat) by rw[show(((1:Nat):Rat))=1 from rfl];grind];rfl
section
variable{T:LL}{u p c:Rat×Rat}{w o:P2 T}
theorem v9:dE T (gy u w p o).c=dm u w:=bn _ _
theorem wF:dE T (gy u w p o).s=dc u w:=bn _ _
theorem Ja:dE T (gy u w p o).x=o5 u w p o:=bn _ _
theorem OI:dE T (gy u w p o).y=qi u w p o:=bn _ _
theorem mP(m:Rat×Rat):cF T (gy u w p o) m=(o.1+(dm u w*qE (m.1-p.1)-dc u w*qE (m.2-p.2)),o.2+(dc u w*qE (m.1-p.1)+dm u w*qE (m.2-p.2))):=by
 unfold cF;rw[v9,wF,Ja,OI,ow,ow];unfold o5 qi;refine Prod.ext ?_ ?_
 ·dsimp only;grind
 ·dsimp only;grind
theorem tV:cF T (gy u w p o) p=o:=by
 rw[mP,show p.1-p.1=0 by grind,show p.2-p.2=0 by grind,zO];refine Prod.ext ?_ ?_
 ·dsimp only;grind
 ·dsimp only;grind
theorem zo(h:bX u u≠0):(dm u w*qE u.1-dc u w*qE u.2=w.1/\dc u w*qE u.1+dm u w*qE u.2=w.2):=by
 have hn:(jW u:Et T)=qE u.1*qE u.1+qE u.2*qE u.2:=by
  show qE (u.1*u.1+u.2*u.2)=_;rw[pL,l8,l8]
 exact(GZ hn (FK h) rfl rfl).1
theorem ra(h:bX (co c p) (co c p)≠0):cF T (gy (co c p) w p o) c=(o.1+w.1,o.2+w.2):=by
 rw[mP];have g:=zo (w:=w) h;have e1:(qE (c.1-p.1):Et T)=qE (co c p).1:=rfl;have e2:(qE (c.2-p.2):Et T)=qE (co c p).2:=rfl;rw[e1,e2,g.1,g.2]
theorem v6(hp:fe T)(h:bX u u≠0)(hw:an (w.1*w.1+w.2*w.2-qE (bX u u))=0):CH T (gy u w p o):=by
 unfold CH;rw[v9,wF]
 have hn:(jW u:Et T)=qE u.1*qE u.1+qE u.2*qE u.2:=by
  show qE (u.1*u.1+u.2*u.2)=_;rw[pL,l8,l8]
 have hi:(iE (jW u)*jW u:Et T)=1:=FK h;have e:=congrArg (ah hp) hn;have ei:=congrArg (ah hp) hi;have ew:ah hp w.1*ah hp w.1+ah hp w.2*ah hp w.2=ah hp (jW u):=(jF hp (x:=w.1*w.1+w.2*w.2) (y:=jW u)).2 hw;have g:=(GZ (R:=Zq hp) (n:=ah hp (jW u)) (i:=ah hp (iE (jW u))) (u1:=ah hp (qE u.1)) (u2:=ah hp (qE u.2)) (c:=ah hp (dm u w)) (s:=ah hp (dc u w)) (w1:=ah hp w.1) (w2:=ah hp w.2) e ei rfl (by unfold dc;rw[bB,bP,bB,bB])).2 ew;refine(jF hp (x:=dm u w*dm u w+dc u w*dc u w) (y:=1)).1 ?_;exact g
end
def aJ(a:As):List Pq:=a.bs.map fun b=>⟨lq b.c,lq b.s,lq b.x,lq b.y⟩
theorem mL(q:Aq):aJ q.as=q.bs:=by
 unfold aJ Aq.as;rw[map_map]
 conv=>rhs;rw[<- List.map_id q.bs]
 refine List.map_congr_left fun p _=>?_
 show(⟨lq (p.c.map rt),lq (p.s.map rt),lq (p.x.map rt),lq (p.y.map rt)⟩:Pq)=p;rw[en,en,en,en]
theorem fZ(l:Li)(a:As)(b pt:Int):bf l a b pt=aY l (llq a.rs) (aJ a) b pt:=by
 have e:(aJ a).getD b.toNat bj=⟨lq (a.bs.getD b.toNat default).c,lq (a.bs.getD b.toNat default).s,lq (a.bs.getD b.toNat default).x,lq (a.bs.getD b.toNat default).y⟩:=by
  unfold aJ;rw[getD_eq_getElem?_getD,getD_eq_getElem?_getD,getElem?_map];cases a.bs[b.toNat]? <;> rfl
 unfold aY;rw[e];rfl
def Nq(n:Nat)(p:Pq):Prop:=p.c.length<=2^n/\p.s.length<=2^n/\p.x.length<=2^n/\p.y.length<=2^n
section
variable{ts T:LL}(L:Lf ts T)
include L
theorem Lf.add(x y:Et ts):ah L.pos (aq T (x+y))=ah L.pos (aq T x)+ah L.pos (aq T y):=L.hm.add x y
theorem Lf.mul(x y:Et ts):ah L.pos (aq T (x*y))=ah L.pos (aq T x)*ah L.pos (aq T y):=L.hm.mul x y
theorem Lf.sub(x y:Et ts):ah L.pos (aq T (x-y))=ah L.pos (aq T x)-ah L.pos (aq T y):=L.hm.sub x y
theorem Lf.one:ah L.pos (aq T (1:Et ts))=1:=L.hm.one
theorem Lf.at{p:Pq}(hp:Nq ts.length p)(m:Rat×Rat):ah L.pos (cF T p m).1=ah L.pos (aq T (cF ts p m).1)/\ah L.pos (cF T p m).2=ah L.pos (aq T (cF ts p m).2):=by
 obtain⟨h1,h2,h3,h4⟩:=hp;unfold cF;dsimp only;constructor
 ·rw[L.add,L.sub,L.mul,L.mul,L.low _ h1,L.low _ h2,L.low _ h3,L.q,L.q,fL,bP,bB,bB]
 ·rw[L.add,L.add,L.mul,L.mul,L.low _ h1,L.low _ h2,L.low _ h4,L.q,L.q,fL,fL,bB,bB]
theorem Lf.zero(x:Et ts):an (aq T x)=0↔an x=0:=(dO L.pos).symm.trans (L.hm.zero x)
theorem Lf.ch{p:Pq}(hp:Nq ts.length p)(h:CH ts p):CH T p:=by
 obtain⟨h1,h2,h3,h4⟩:=hp;have e:=(L.zero _).2 h;have e1:=(dO L.pos).2 e;refine(dO L.pos).1 ?_;rw[L.sub,L.add,L.mul,L.mul,L.low _ h1,L.low _ h2,L.one]at e1;rw[bP,fL,bB,bB];exact e1
end
end Go.Lw
namespace Go.Lw
open Lean.Grind (CommRing)
def cS(bs bs':List Pq)(n:Nat)(b:Int):Prop:=bs'.getD b.toNat bj=bs.getD b.toNat bj/\Nq n (bs.getD b.toNat bj)
section
variable{ts T:LL}(L:Lf ts T)
include L
theorem Lf.pt(l:Li){bs bs':List Pq}{b:Int}(h:cS bs bs' ts.length b)(pt:Int) :
  ah L.pos (aY l T bs' b pt).1=ah L.pos (aq T (aY l ts bs b pt).1)/\ah L.pos (aY l T bs' b pt).2=ah L.pos (aq T (aY l ts bs b pt).2):=by
 unfold aY;rw[h.1];exact L.at h.2 _
end
section
variable{T:LL}(hp:fe T)
include hp
theorem uA{l:Li}{bs:List Pq}{j:Jt}(hk:j.kind=0)(h1:ah hp (aY l T bs j.a j.point).1=ah hp (aY l T bs j.b j.on).1)(h2:ah hp (aY l T bs j.a j.point).2=ah hp (aY l T bs j.b j.on).2):JH l T bs j:=by
 unfold JH;rw[if_pos hk];exact⟨(jF hp).1 h1,(jF hp).1 h2⟩
theorem A5{l:Li}{bs:List Pq}{j:Jt}(hk:j.kind≠0)
  (h:(ah hp (aY l T bs j.b j.to).1-ah hp (aY l T bs j.b j.on).1)*(ah hp (aY l T bs j.a j.point).2-ah hp (aY l T bs j.b j.on).2)-(ah hp (aY l T bs j.b j.to).2-ah hp (aY l T bs j.b j.on).2)*(ah hp (aY l T bs j.a j.point).1-ah hp (aY l T bs j.b j.on).1)=0):JH l T bs j:=by
 unfold JH;rw[if_neg hk];refine(dO hp).1 ?_;unfold jv crsE aQ;dsimp only;rw[bP,bB,bB,bP,bP,bP,bP];exact h
end
section
variable{ts T:LL}(L:Lf ts T)
include L
theorem Lf.jh{l:Li}{bs bs':List Pq}{j:Jt}(ha:cS bs bs' ts.length j.a)(hb:cS bs bs' ts.length j.b)(h:JH l ts bs j):JH l T bs' j:=by
 have a:=L.pt l ha;have b:=L.pt l hb
 by_cases hk:j.kind=0
 ·unfold JH at h;rw[if_pos hk]at h;have e1:=(dO L.pos).2 ((L.zero _).2 h.1);have e2:=(dO L.pos).2 ((L.zero _).2 h.2);rw[L.sub]at e1 e2;refine uA L.pos hk ?_ ?_
  ·rw[(a _).1,(b _).1];grind
  ·rw[(a _).2,(b _).2];grind
 ·unfold JH at h;rw[if_neg hk]at h;have e1:=(dO L.pos).2 ((L.zero _).2 h);unfold jv crsE aQ at e1;dsimp only at e1;simp only[L.sub,L.mul]at e1;refine A5 L.pos hk ?_;rw[(a _).1,(a _).2,(b _).1,(b _).2,(b _).1,(b _).2];exact e1
end
section
variable{l:Li}{a:As}{T:LL}(L:Lf (llq a.rs) T)
include L
theorem Lf.pin{bs':List Pq}{j:Jt}{i:Int}(hk:j.kind=0)(tie:(j.a=i/\cS (aJ a) bs' (llq a.rs).length j.b)\/(j.a≠i/\j.b=i/\cS (aJ a) bs' (llq a.rs).length j.a))
  (h:cF T (bs'.getD i.toNat bj) (am l j i)=(aq T (aB l a j i).1,aq T (aB l a j i).2)):JH l T bs' j:=by
 have h1:=congrArg Prod.fst h;have h2:=congrArg Prod.snd h;dsimp only at h1 h2;rcases tie with⟨e,hs⟩ |⟨e,e2,hs⟩
 ·have b:=L.pt l hs j.on;unfold am aB at h1 h2;simp only[if_pos e]at h1 h2;rw[fZ]at h1 h2;refine uA L.pos hk ?_ ?_
  ·rw[b.1];unfold aY;rw[e];exact congrArg (ah L.pos) h1
  ·rw[b.2];unfold aY;rw[e];exact congrArg (ah L.pos) h2
 ·have b:=L.pt l hs j.point;unfold am aB at h1 h2;simp only[if_neg e]at h1 h2;rw[fZ]at h1 h2;refine uA L.pos hk ?_ ?_
  ·rw[b.1]
   conv=>rhs;unfold aY
   rw[e2];exact(congrArg (ah L.pos) h1).symm
  ·rw[b.2]
   conv=>rhs;unfold aY
   rw[e2];exact(congrArg (ah L.pos) h2).symm
end
theorem jN{bs:List Pq}{i k:Int}{p:Pq}(hi:0<=i)(hk:0<=k)(h:k≠i):(bs.set i.toNat p).getD k.toNat bj=bs.getD k.toNat bj:=by
 rw[getD_eq_getElem?_getD,getD_eq_getElem?_getD,List.getElem?_set_ne oz]
theorem lX{bs:List Pq}{i:Nat}{p:Pq}(h:i<bs.length):(bs.set i p).getD i bj=p:=by
 rw[getD_eq_getElem?_getD,List.getElem?_set_self h];rfl
theorem Lc(n:Nat):Nq n bj:=⟨zero_le _,zero_le _,zero_le _,zero_le _⟩
theorem xB{bs:List Pq}{n:Nat}(h:∀p∈bs,Nq n p)(i:Nat):Nq n (bs.getD i bj):=by
 rw[getD_eq_getElem?_getD];cases e:bs[i]? with
 |none=>exact Lc n
 |some p=>exact h p (mem_of_getElem? e)
structure GrpH(l:Li)(a:As)(g:Gr)(s:Sv):Prop where
  lf:Lf (llq a.rs) s.ts
  js:∀z∈g.jo,JH l s.ts (aZ (aJ a) g.bo s.ps) (l.jo.getD z.toNat default)
  cs:∀b∈g.bo,CH s.ts ((aZ (aJ a) g.bo s.ps).getD b.toNat bj)
theorem SE{R:Type}[CommRing R]{C S a1 a2 b1 b2 x1 x2 P1 P2 o1 o2:R}(hcs:C*C+S*S=1)(g:x1*(P2-o2)-x2*(P1-o1)=(a1-b1)*b2-(a2-b2)*b1)
  (y1:C*(a1-b1)-S*(a2-b2)=x1) (y2:S*(a1-b1)+C*(a2-b2)=x2) :
  (o1+(C*a1-S*a2)-(o1+(C*b1-S*b2)))*(P2-(o2+(S*b1+C*b2)))-(o2+(S*a1+C*a2)-(o2+(S*b1+C*b2)))*(P1-(o1+(C*b1-S*b2)))=0:=by
 have e1:o1+(C*a1-S*a2)-(o1+(C*b1-S*b2))=x1:=by rw[<- y1];grind
 have e2:o2+(S*a1+C*a2)-(o2+(S*b1+C*b2))=x2:=by rw[<- y2];grind
 rw[e1,e2];have e3:x1*(P2-(o2+(S*b1+C*b2)))-x2*(P1-(o1+(C*b1-S*b2)))=(x1*(P2-o2)-x2*(P1-o1))-(x1*(S*b1+C*b2)-x2*(C*b1-S*b2)):=by clear hcs g y1 y2 e1 e2;grind
 have e4:x1*(S*b1+C*b2)-x2*(C*b1-S*b2)=((a1-b1)*b2-(a2-b2)*b1)*(C*C+S*S):=by rw[<- y1,<- y2];clear hcs g y1 y2 e1 e2 e3;grind
 rw[e3,e4,g,hcs];grind
section
variable{l:Li}{a:As}{r:Nat}(tw:Tw (llq a.rs) r)(hN:∀p∈aJ a,Nq (llq a.rs).length p)
include tw hN
theorem oh{bs':List Pq}{b:Int}(h:bs'.getD b.toNat bj=(aJ a).getD b.toNat bj):cS (aJ a) bs' (llq a.rs).length b:=by
 have:=tw;exact⟨h,xB hN _⟩
theorem BS{u:Rat×Rat}(h:bX u u≠0):0<an (qE (bX u u):Et (llq a.rs)):=by
 have:=tw;have:=hN;have h0:0<=bX u u:=Rat.add_nonneg (oC u.1) (oC u.2)
 have h1:0<bX u u:=by
  rcases Rat.le_iff_lt_or_eq.1 h0 with g |g
  ·exact g
  ·exact absurd g.symm h
 rw[Fp,wJ h1];decide
theorem Rc{i k z0 z1 z2:Int}{j0 j1 j2:Jt}(ne:i≠k)(t0:TieO l 0 [i,k] z0 i j0)(t1:TieO l 0 [i,k] z1 k j1)(h2:l.jo[z2.toNat]?=some j2)(kd:j2.kind=0)
  (tie:(j2.a=i/\j2.b=k)\/(j2.b=i/\j2.a=k)) (hi:0<=i) (hk:0<=k) (hil:i.toNat<(aJ a).length) (hkl:k.toNat<(aJ a).length) (hn:∀j∈l.jo,0<=j.a/\0<=j.b)
  {s:Sv} (hs:s∈je l a i k j0 j1 j2):GrpH l a ⟨1,[i,k],[z0,z1,z2],0⟩ s:=by
 unfold je at hs;split at hs
 ·cases hs
 ·rename_i hz;obtain⟨w1,w2⟩:=rc (Bool.eq_false_iff.2 hz);split at hs
  ·cases hs
  ·rename_i hc;have hc:=Decidable.not_not.1 hc;have geo:=Mm tw (fun X hX=>qV tw.pos hX) hc (BS tw hN w1);unfold jA at hs;obtain ⟨m,hm,rfl⟩:=List.mem_map.1 hs;obtain ⟨x,hx⟩:=aw (List.mem_range.1 hm);have G:=geo x (mem_of_getElem? hx);unfold jB;rw [ao hx];have e0:TieO l 0 [i,k] z0 i j0:=t0;obtain ⟨n0,n1⟩:=hn j0 (mem_of_getElem? t0.hj);obtain ⟨n2,n3⟩:=hn j1 (mem_of_getElem? t1.hj);have hne:i.toNat ≠ k.toNat:=by omega
   generalize hM:dX (aB l a j0 i) (aB l a j1 k) (qE (bt (am l j2 i) (am l j0 i))) (qE (bt (am l j2 k) (am l j1 k)))=M at *;obtain⟨B0,hB0⟩:∃B0,B0=kF M.ts x ⟨am l j0 i,P2.l (aB l a j0 i),am l j2 i⟩:=⟨_,rfl⟩
   obtain⟨B1,hB1⟩:∃B1,B1=kF M.ts x ⟨am l j1 k,P2.l (aB l a j1 k),am l j2 k⟩:=⟨_,rfl⟩
   have hbs:aZ (aJ a) [i,k] [B0,B1]=((aJ a).set i.toNat B0).set k.toNat B1:=rfl;have g0:(aZ (aJ a) [i,k] [B0,B1]).getD i.toNat bj=B0:=by rw[hbs,jN hk hi ne,lX hil]
   have g1:(aZ (aJ a) [i,k] [B0,B1]).getD k.toNat bj=B1:=by rw[hbs,lX (by rw[length_set];exact hkl)]
   have gn:∀b:Int,0<=b->b∉[i,k]->cS (aJ a) (aZ (aJ a) [i,k] [B0,B1]) (llq a.rs).length b:=fun b h0 hb=>oh tw hN (by
    rw[hbs,jN hk h0 (fun e=>hb (by simp[e])),jN hi h0 (fun e=>hb (by simp[e]))])
   have p0:cF M.ts B0 (am l j0 i)=(aq M.ts (aB l a j0 i).1,aq M.ts (aB l a j0 i).2):=by rw[hB0];exact tV
   have p1:cF M.ts B1 (am l j1 k)=(aq M.ts (aB l a j1 k).1,aq M.ts (aB l a j1 k).2):=by rw[hB1];exact tV
   have q0:cF M.ts B0 (am l j2 i)=(dE M.ts x.1,dE M.ts x.2):=by
    rw[hB0];refine(ra w1).trans ?_;unfold kj i7;refine Prod.ext ?_ ?_
    ·dsimp only;grind
    ·dsimp only;grind
   have q1:cF M.ts B1 (am l j2 k)=(dE M.ts x.1,dE M.ts x.2):=by
    rw[hB1];refine(ra w2).trans ?_;unfold kj i7;refine Prod.ext ?_ ?_
    ·dsimp only;grind
    ·dsimp only;grind
   refine⟨G.lf,?_,?_⟩
   ·intro z hz;show JH l M.ts (aZ (aJ a) [i,k] [_,_]) _;rw[<- hB0,<- hB1];rcases List.mem_cons.1 hz with rfl |hz
    ·rw [ao t0.hj];refine G.lf.pin t0.kd (i:=i) ?_ (by rw [g0]; exact p0);rcases t0.tie with ⟨e,hb⟩ | ⟨e,hb⟩
     ·exact .inl ⟨e,gn _ n1 hb⟩
     ·exact .inr ⟨fun e2=>hb (by simp[e2]),e,gn _ n0 hb⟩
    ·rcases List.mem_cons.1 hz with rfl |hz
     ·rw [ao t1.hj];refine G.lf.pin t1.kd (i:=k) ?_ (by rw [g1]; exact p1);rcases t1.tie with ⟨e,hb⟩ | ⟨e,hb⟩
      ·exact .inl ⟨e,gn _ n3 hb⟩
      ·exact .inr ⟨fun e2=>hb (by simp[e2]),e,gn _ n2 hb⟩
     ·rw[List.mem_singleton.1 hz,ao h2]
      have key:aY l M.ts (aZ (aJ a) [i,k] [B0,B1]) j2.a j2.point=aY l M.ts (aZ (aJ a) [i,k] [B0,B1]) j2.b j2.on:=by
       unfold aY;rcases tie with⟨e,e'⟩ |⟨e,e'⟩
       ·have c0 : am l j2 i = aS l i j2.point := by unfold am; rw [if_pos e]
        have c1:am l j2 k=aS l k j2.on:=by unfold am;rw[if_neg oz]
        rw[e,e',g0,g1,<- c0,<- c1,q0,q1]
       ·have c0 : am l j2 k = aS l k j2.point := by unfold am; rw [if_pos e']
        have c1:am l j2 i=aS l i j2.on:=by unfold am;rw[if_neg oz]
        rw[e,e',g0,g1,<- c0,<- c1,q0,q1]
      exact uA G.lf.pos kd (by rw[key]) (by rw[key])
   ·intro b hb;show CH M.ts ((aZ (aJ a) [i,k] [_,_]).getD b.toNat bj);rw[<- hB0,<- hB1];rcases List.mem_cons.1 hb with rfl |hb
    ·rw[g0,hB0];refine v6 G.lf.pos w1 ?_;have:=G.c1;rw[G.lf.q]at this;exact this
    ·rw[List.mem_singleton.1 hb,g1,hB1];refine v6 G.lf.pos w2 ?_;have:=G.c2;rw[G.lf.q]at this;exact this
theorem O8{i z0 z1:Int}{j0 j:Jt}(t0:TieO l 0 [i] z0 i j0)(t1:TieO l 1 [i] z1 i j)(ha:j.a=i)(hi:0<=i)(hil:i.toNat<(aJ a).length)(hn:∀j∈l.jo,0<=j.a/\0<=j.b)
  {s:Sv} (hs:s∈jC l a i j0 j):GrpH l a ⟨2,[i],[z0,z1],0⟩ s:=by
 unfold jC at hs;split at hs
 ·cases hs
 ·rename_i hz;have w1:=tW (Bool.eq_false_iff.2 hz);split at hs
  ·cases hs
  ·rename_i hc;have hc:=Decidable.not_not.1 hc;have geo:=Rg tw (fun X hX=>qV tw.pos hX) (c:=aB l a j0 i) (z:=qE (bt (aS l i j.point) (am l j0 i))) hc;unfold jA at hs;obtain⟨m,hm,rfl⟩:=List.mem_map.1 hs;obtain⟨x,hx⟩:=aw (List.mem_range.1 hm);have G:=geo x (mem_of_getElem? hx);have L:=G.lf;unfold jB;rw[ao hx];obtain⟨n0,n1⟩:=hn j0 (mem_of_getElem? t0.hj);obtain⟨n2,n3⟩:=hn j (mem_of_getElem? t1.hj);generalize hM:dS (bf l a j.b j.on) (bf l a j.b j.to) (aB l a j0 i) (qE (bt (aS l i j.point) (am l j0 i)))=M at *;obtain⟨B0,hB0⟩:∃B0,B0=kF M.ts x ⟨am l j0 i,P2.l (aB l a j0 i),aS l i j.point⟩:=⟨_,rfl⟩
   have hbs:aZ (aJ a) [i] [B0]=(aJ a).set i.toNat B0:=rfl;have g0:(aZ (aJ a) [i] [B0]).getD i.toNat bj=B0:=by rw[hbs,lX hil]
   have gn:∀b:Int,0<=b->b∉[i]->cS (aJ a) (aZ (aJ a) [i] [B0]) (llq a.rs).length b:=fun b h0 hb=>oh tw hN (by
    rw[hbs,jN hi h0 (fun e=>hb (by simp[e]))])
   have p0:cF M.ts B0 (am l j0 i)=(aq M.ts (aB l a j0 i).1,aq M.ts (aB l a j0 i).2):=by rw[hB0];exact tV
   have q0:cF M.ts B0 (aS l i j.point)=(dE M.ts x.1,dE M.ts x.2):=by
    rw[hB0];refine(ra w1).trans ?_;unfold kj i7;refine Prod.ext ?_ ?_
    ·dsimp only;grind
    ·dsimp only;grind
   have hjb:cS (aJ a) (aZ (aJ a) [i] [B0]) (llq a.rs).length j.b:=by
    rcases t1.tie with⟨e,hb⟩ |⟨e,hb⟩
    ·exact gn _ n3 hb
    ·exact absurd (by simp[ha]) hb
   refine⟨G.lf,?_,?_⟩
   ·intro z hz;show JH l M.ts (aZ (aJ a) [i] [_]) _;rw[<- hB0];rcases List.mem_cons.1 hz with rfl |hz
    ·rw [ao t0.hj];refine L.pin t0.kd (i:=i) ?_ (by rw [g0]; exact p0);rcases t0.tie with ⟨e,hb⟩ | ⟨e,hb⟩
     ·exact .inl ⟨e,gn _ n1 hb⟩
     ·exact .inr ⟨fun e2=>hb (by simp[e2]),e,gn _ n0 hb⟩
    ·rw [List.mem_singleton.1 hz, ao t1.hj];refine A5 L.pos (by rw [t1.kd]; decide) ?_;have ec:=(dO L.pos).2 G.l;rw [bP,bB,bB,bP,bP,bP,bP,fZ,fZ] at ec;have on:=L.pt l hjb j.on;have to:=L.pt l hjb j.to
     have pp:aY l M.ts (aZ (aJ a) [i] [B0]) j.a j.point=(dE M.ts x.1,dE M.ts x.2):=by
      unfold aY;rw[ha,g0,q0]
     rw[pp,on.1,on.2,to.1,to.2];exact ec
   ·intro b hb;show CH M.ts ((aZ (aJ a) [i] [_]).getD b.toNat bj);rw[<- hB0,List.mem_singleton.1 hb,g0,hB0];refine v6 L.pos w1 ?_;have:=G.c;rw[L.q]at this;exact this
theorem yt{i z0 z1:Int}{j0 j:Jt}(t0:TieO l 0 [i] z0 i j0)(t1:TieO l 1 [i] z1 i j)(ha:j.a≠i)(hi:0<=i)(hil:i.toNat<(aJ a).length)(hn:∀j∈l.jo,0<=j.a/\0<=j.b)(hv:bX (cq l i j) (cq l i j)≠0)
  (hd:an (b7 l a i j0 j)≠0) {T:LL} (L:Lf (llq a.rs) T) {q:List Rat} (hq:ah L.pos (dE T q*dE T q)=ah L.pos (aq T (bb l a i j0 j))) {n:Int} :
  GrpH l a ⟨3,[i],[z0,z1],0⟩ ⟨T,[m7 T (dg l a i j0 j) q],n⟩:=by
 obtain⟨n0,n1⟩:=hn j0 (mem_of_getElem? t0.hj);obtain⟨n2,n3⟩:=hn j (mem_of_getElem? t1.hj)
 obtain⟨tb,tn⟩:j.b=i/\j.a∉[i]:=by
  rcases t1.tie with⟨e,hb⟩ |h
  ·exact absurd e ha
  ·exact h
 obtain⟨w,hw⟩:∃w:P2 T,w=mF T q (dg l a i j0 j).h (dg l a i j0 j).d (dg l a i j0 j).w:=⟨_,rfl⟩
 obtain⟨o,ho⟩:∃o:P2 T,o=(aq T (aB l a j0 i).1,aq T (aB l a j0 i).2):=⟨_,rfl⟩
 obtain⟨B0,hB0⟩:∃B0,B0=gy (cq l i j) w (am l j0 i) o:=⟨_,rfl⟩
 have e0:m7 T (dg l a i j0 j) q=B0:=by rw[hB0,hw,ho];rfl
 rw[e0];have hbs:aZ (aJ a) [i] [B0]=(aJ a).set i.toNat B0:=rfl;have g0:(aZ (aJ a) [i] [B0]).getD i.toNat bj=B0:=by rw[hbs,lX hil]
 have gn:∀b:Int,0<=b->b∉[i]->cS (aJ a) (aZ (aJ a) [i] [B0]) (llq a.rs).length b:=fun b h0 hb=>oh tw hN (by
  rw[hbs,jN hi h0 (fun e=>hb (by simp[e]))])
 have hD:ah L.pos (aq T (b7 l a i j0 j))=ah L.pos (aq T (bS l a i j0 j).1)*ah L.pos (aq T (bS l a i j0 j).1)+ah L.pos (aq T (bS l a i j0 j).2)*ah L.pos (aq T (bS l a i j0 j).2):=by
  rw[<- L.mul,<- L.mul,<- L.add];rfl
 have hI:ah L.pos (iE (aq T (b7 l a i j0 j)))*ah L.pos (aq T (b7 l a i j0 j))=1:=vt L.pos (fun e=>hd ((L.zero _).1 e))
 have hX:ah L.pos (dE T q)*ah L.pos (dE T q)=ah L.pos (qE (gY l i j))*ah L.pos (aq T (b7 l a i j0 j))-ah L.pos (qE (cc l i j0 j))*ah L.pos (qE (cc l i j0 j)):=by
  rw[<- bB,hq];unfold bb;rw[L.sub,L.mul,L.mul,L.q,L.q]
 have eh:dE T (dg l a i j0 j).h=qE (cc l i j0 j):=gE _ _;have x1:w.1=(dE T q*aq T (bS l a i j0 j).1-qE (cc l i j0 j)*-aq T (bS l a i j0 j).2)*iE (aq T (b7 l a i j0 j)):=by rw[hw,<- eh];rfl
 have x2:w.2=(dE T q*aq T (bS l a i j0 j).2-qE (cc l i j0 j)*aq T (bS l a i j0 j).1)*iE (aq T (b7 l a i j0 j)):=by rw[hw,<- eh];rfl
 have G:=Pg hD hI hX (w1:=ah L.pos w.1) (w2:=ah L.pos w.2) (by rw[x1,bB,bP,bB,bB,B6]) (by rw[x2,bB,bP,bB,bB])
 have hc:CH T B0:=by
  rw[hB0];refine v6 L.pos hv ?_;refine(jF L.pos (x:=w.1*w.1+w.2*w.2) (y:=qE (bX (cq l i j) (cq l i j)))).1 ?_;rw[fL,bB,bB,G.1];rfl
 refine⟨L,?_,?_⟩
 ·intro z hz;show JH l T (aZ (aJ a) [i] [B0]) _;rcases List.mem_cons.1 hz with rfl |hz
  ·rw [ao t0.hj];refine L.pin t0.kd (i:=i) ?_ (by rw [g0,hB0,tV,ho]);rcases t0.tie with ⟨e,hb⟩ | ⟨e,hb⟩
   ·exact .inl ⟨e,gn _ n1 hb⟩
   ·exact .inr ⟨fun e2=>hb (by simp[e2]),e,gn _ n0 hb⟩
  ·rw [List.mem_singleton.1 hz, ao t1.hj];refine A5 L.pos (by rw [t1.kd]; decide) ?_;have pp:=L.pt l (gn _ n2 tn) j.point;have eon:aY l T (aZ (aJ a) [i] [B0]) j.b j.on = cF T B0 (aS l i j.on):=by unfold aY; rw [tb,g0]
   have eto:aY l T (aZ (aJ a) [i] [B0]) j.b j.to=cF T B0 (aS l i j.to):=by unfold aY;rw[tb,g0]
   have W1:ah L.pos (aq T (bS l a i j0 j).1)=ah L.pos (aq T (aY l (llq a.rs) (aJ a) j.a j.point).1)-ah L.pos o.1:=by
    rw[ho,<- L.sub,<- fZ];rfl
   have W2:ah L.pos (aq T (bS l a i j0 j).2)=ah L.pos (aq T (aY l (llq a.rs) (aJ a) j.a j.point).2)-ah L.pos o.2:=by
    rw[ho,<- L.sub,<- fZ];rfl
   have g2:=G.2;rw[W1,W2]at g2;rw[pp.1,pp.2,eon,eto,hB0,mP,mP];have gg:=zo (w:=w) hv
   have hcs:ah L.pos (dm (cq l i j) w)*ah L.pos (dm (cq l i j) w)+ah L.pos (dc (cq l i j) w)*ah L.pos (dc (cq l i j) w)=1:=by
    have h9:=(dO L.pos).2 hc;rw[hB0,v9,wF,bP,fL,bB,bB,MN]at h9;grind
   have v1:(qE (cq l i j).1:Et T)=qE ((aS l i j.to).1-(am l j0 i).1)-qE ((aS l i j.on).1-(am l j0 i).1):=by rw[<- ow];congr 1;show(aS l i j.to).1-(aS l i j.on).1=_;grind
   have v2:(qE (cq l i j).2:Et T)=qE ((aS l i j.to).2-(am l j0 i).2)-qE ((aS l i j.on).2-(am l j0 i).2):=by rw[<- ow];congr 1;show(aS l i j.to).2-(aS l i j.on).2=_;grind
   have hh:(qE (cc l i j0 j):Et T)=qE (cq l i j).1*qE ((aS l i j.on).2-(am l j0 i).2)-qE (cq l i j).2*qE ((aS l i j.on).1-(am l j0 i).1):=by
    rw[<- l8,<- l8,<- ow];rfl
   have y1:=congrArg (ah L.pos) gg.1;have y2:=congrArg (ah L.pos) gg.2;rw[hh,bP,bB,bB]at g2;rw[v1,v2]at g2 y1 y2;simp only[fL,bP,bB]at g2 y1 y2 ⊢
   revert hcs g2 y1 y2
   generalize ah L.pos (qE ((aS l i j.to).1-(am l j0 i).1):Et T)=a1;generalize ah L.pos (qE ((aS l i j.to).2-(am l j0 i).2):Et T)=a2;generalize ah L.pos (qE ((aS l i j.on).1-(am l j0 i).1):Et T)=b1;generalize ah L.pos (qE ((aS l i j.on).2-(am l j0 i).2):Et T)=b2;generalize ah L.pos (dm (cq l i j) w)=C;generalize ah L.pos (dc (cq l i j) w)=S;generalize ah L.pos (aq T (aY l (llq a.rs) (aJ a) j.a j.point).1)=P1;generalize ah L.pos (aq T (aY l (llq a.rs) (aJ a) j.a j.point).2)=P2;generalize ah L.pos o.1=o1;generalize ah L.pos o.2=o2;generalize ah L.pos w.1=x1;generalize ah L.pos w.2=x2;intro hcs g2 y1 y2;exact SE hcs g2 y1 y2
 ·intro b hb;rw[List.mem_singleton.1 hb];show CH T ((aZ (aJ a) [i] [B0]).getD i.toNat bj);rw[g0];exact hc
end
end Go.Lw
namespace Go.Lw
open Lean.Grind (CommRing)
theorem P3(half:Bool)(t:Rat):dM half t*dM half t+dH half t*dH half t=1:=by
 unfold dM dH;cases half
 ·have h:1+t*t≠0:=by
   have:=oC t;intro e;grind
  simp only[Bool.false_eq_true,if_false]
  have e1:(1-t*t)/(1+t*t)*((1-t*t)/(1+t*t))+(t+t)/(1+t*t)*((t+t)/(1+t*t))=((1-t*t)*(1-t*t)+(t+t)*(t+t))*((1+t*t)⁻¹*(1+t*t)⁻¹):=by
   rw[Rat.div_def,Rat.div_def];grind
  rw[e1];have e2:(1+t*t)*(1+t*t)⁻¹=1:=Rat.mul_inv_cancel _ h;generalize(1+t*t)⁻¹=k at e2 ⊢;have e3:((1-t*t)*(1-t*t)+(t+t)*(t+t))*(k*k)=((1+t*t)*k)*((1+t*t)*k):=by grind
  rw[e3,e2,Rat.one_mul]
 ·simp only[if_true];decide +kernel
section
variable{l:Li}{a:As}{r:Nat}(tw:Tw (llq a.rs) r)(hN:∀p∈aJ a,Nq (llq a.rs).length p)
include tw hN
theorem TD{i z0 z1:Int}{j0 j:Jt}(t0:TieO l 0 [i] z0 i j0)(t1:TieO l 1 [i] z1 i j)(ha:j.a≠i)(hi:0<=i)(hil:i.toNat<(aJ a).length)(hn:∀j∈l.jo,0<=j.a/\0<=j.b)(hv:bX (cq l i j) (cq l i j)≠0)
  {s:Sv} (hs:s∈jq l a i j0 j):GrpH l a ⟨3,[i],[z0,z1],0⟩ s:=by
 unfold jq at hs;split at hs
 ·cases hs
 ·rename_i h1;split at hs
  ·cases hs
  ·rename_i h2;have hd:=tU tw h2 h1;split at hs
   ·rename_i h3;have hp:=qV tw.pos h3;have L:=qS (bb l a i j0 j) hp;have e:=qj (bb l a i j0 j);unfold jI at hs;obtain⟨m,hm,rfl⟩:=List.mem_map.1 hs;have hm:=List.mem_range.1 hm;unfold iQ
    match m,hm with
    |0,_ =>
     refine yt tw hN t0 t1 ha hi hil hn hv hd L ?_;show ah L.pos (ba (bb l a i j0 j)*ba (bb l a i j0 j))=_;rw[e];rfl
    |1,_ =>
     refine yt tw hN t0 t1 ha hi hil hn hv hd L ?_;show ah L.pos (dE _ (sX (-ba (bb l a i j0 j)))*dE _ (sX (-ba (bb l a i j0 j))))=_;rw[dV,show -ba (bb l a i j0 j)*-ba (bb l a i j0 j)=ba (bb l a i j0 j)*ba (bb l a i j0 j) by grind,e];rfl
    |m+2,h=>exact absurd h (by simp)
   ·rename_i h3;have hX:an (bb l a i j0 j) = 0:=by omega
    have L:=mC (ts:=llq a.rs) tw.pos;unfold jI at hs;obtain⟨m,hm,rfl⟩:=List.mem_map.1 hs;have hm:=List.mem_range.1 hm;unfold iQ
    match m,hm with
    |0,_ =>
     refine yt tw hN t0 t1 ha hi hil hn hv hd L ?_;show ah L.pos (dE _ []*dE _ [])=_;have e0:(dE (llq a.rs) []:Et (llq a.rs))=0:=by rw[E.zero_def];exact iR _
     rw[e0,cQ];refine((dO L.pos).2 ?_).trans ((dO L.pos).2 hX).symm;rw[show(0:Et (llq a.rs))*0=0 by grind];exact(dN _ _ L.pos).zero
    |m+1,h=>exact absurd h (by simp)
theorem UV{i z0 d:Int}{j0:Jt}(t0:TieO l 0 [i] z0 i j0)(hi:0<=i)(hil:i.toNat<(aJ a).length)(hn:∀j∈l.jo,0<=j.a/\0<=j.b){x:Tn}
  {s:Sv} (hs:s∈jw l a i j0 x):GrpH l a ⟨0,[i],[z0],d⟩ s/\dE s.ts ((aZ (aJ a) [i] s.ps).getD i.toNat bj).c=qE (dM x.half x.t.q)/\dE s.ts ((aZ (aJ a) [i] s.ps).getD i.toNat bj).s=qE (dH x.half x.t.q):=by
 unfold jw at hs;split at hs
 ·cases hs
 ·rw[List.mem_singleton.1 hs];obtain⟨n0,n1⟩:=hn j0 (mem_of_getElem? t0.hj);have L:=mC (ts:=llq a.rs) tw.pos;have hbs:∀B0,aZ (aJ a) [i] [B0]=(aJ a).set i.toNat B0:=fun _=>rfl
  have g0:∀B0,(aZ (aJ a) [i] [B0]).getD i.toNat bj=B0:=fun B0=>by rw[hbs,lX hil]
  have gn:∀(B0:Pq)(b:Int),0<=b->b∉[i]->cS (aJ a) (aZ (aJ a) [i] [B0]) (llq a.rs).length b:=fun B0 b h0 hb=>oh tw hN (by
   rw[hbs,jN hi h0 (fun e=>hb (by simp[e]))])
  have eN:(jW (((1:Int):Rat),0):Et (llq a.rs))=qE 1:=congrArg qE (show((1:Int):Rat)*((1:Int):Rat)+0*0=1 by decide +kernel);have q1:(qE 1:Et (llq a.rs))=1:=rfl
  have hc:(dE (llq a.rs) (kX l a i j0 x).c:Et (llq a.rs))=qE (dM x.half x.t.q):=by
   unfold kX;rw[v9];unfold dm;rw[eN,xq,kV,zO];grind
  have hsn:(dE (llq a.rs) (kX l a i j0 x).s:Et (llq a.rs))=qE (dH x.half x.t.q):=by
   unfold kX;rw[wF];unfold dc;rw[eN,xq,kV,zO];grind
  refine⟨⟨L,?_,?_⟩,by rw[g0];exact hc,by rw[g0];exact hsn⟩
  ·intro z hz;rw [List.mem_singleton.1 hz,ao t0.hj];show JH l (llq a.rs) (aZ (aJ a) [i] [kX l a i j0 x]) j0;refine L.pin t0.kd (i:=i) ?_ (by rw [g0,cQ,cQ]; exact tV);rcases t0.tie with ⟨e,hb⟩ | ⟨e,hb⟩
   ·exact .inl ⟨e,gn _ _ n1 hb⟩
   ·exact .inr ⟨fun e2=>hb (by simp[e2]),e,gn _ _ n0 hb⟩
  ·intro b hb;rw[List.mem_singleton.1 hb];show CH (llq a.rs) ((aZ (aJ a) [i] [kX l a i j0 x]).getD i.toNat bj);rw[g0];unfold CH;rw[hc,hsn,<- l8,<- l8,<- pL,P3,q1,show(1:Et (llq a.rs))-1=0 by grind];exact(dN _ _ L.pos).zero
theorem Ka{g:Gr}(hg:DyK l g)(hgb:∀b∈g.bo,0<=b/\b.toNat<(aJ a).length)(hli:aD l=0){x:Tn}{s:Sv}(hs:s∈dt l a g x):GrpH l a g s/\(g.kind=0->dE s.ts ((aZ (aJ a) g.bo s.ps).getD (aI g 0).toNat bj).c=qE (dM x.half x.t.q)/\dE s.ts ((aZ (aJ a) g.bo s.ps).getD (aI g 0).toNat bj).s=qE (dH x.half x.t.q)):=by
 have hn:∀j∈l.jo,0<=j.a/\0<=j.b:=fun j hj=>by
  obtain⟨n,hn⟩:=getElem?_of_mem hj;obtain⟨i1,i2,_⟩:=cU hli hn;have i1:=cT i1;have i2:=cT i2;omega
 cases hg with
 | @drv b z d j dr t d0 hd hb =>
  have e:ak l ⟨0,[b],[z],d⟩ 0=j:=ao t.hj;have hs:s∈jw l a b j x:=by rw[<- e];exact hs
  obtain⟨h1,h2⟩:=hgb b (by simp);have h:=UV (d:=d) tw hN t h1 h2 hn hs;exact⟨h.1,fun _=>h.2⟩
 | @rrr i k z0 z1 z2 j0 j1 j2 ne t0 t1 h0 h2 kd tie =>
  have e0:ak l ⟨1,[i,k],[z0,z1,z2],0⟩ 0=j0:=ao t0.hj;have e1:ak l ⟨1,[i,k],[z0,z1,z2],0⟩ 1=j1:=ao t1.hj;have e2:ak l ⟨1,[i,k],[z0,z1,z2],0⟩ 2=j2:=ao h2;have hs:s∈je l a i k j0 j1 j2:=by rw[<- e0,<- e1,<- e2];exact hs
  obtain⟨b1,b2⟩:=hgb i (by simp);obtain⟨b3,b4⟩:=hgb k (by simp);exact⟨Rc tw hN ne t0 t1 h2 kd tie b1 b3 b2 b4 hn hs,fun h=>absurd h (by simp)⟩
 | @pr i z0 z1 j0 j1 t0 t1 ha =>
  have e0:ak l ⟨2,[i],[z0,z1],0⟩ 0=j0:=ao t0.hj;have e1:ak l ⟨2,[i],[z0,z1],0⟩ 1=j1:=ao t1.hj;have hs:s∈jC l a i j0 j1:=by rw[<- e0,<- e1];exact hs
  obtain⟨b1,b2⟩:=hgb i (by simp);exact⟨O8 tw hN t0 t1 ha b1 b2 hn hs,fun h=>absurd h (by simp)⟩
 | @rp i z0 z1 j0 j1 t0 t1 ha =>
  have e0:ak l ⟨3,[i],[z0,z1],0⟩ 0=j0:=ao t0.hj;have e1:ak l ⟨3,[i],[z0,z1],0⟩ 1=j1:=ao t1.hj;have hs:s∈jq l a i j0 j1:=by rw[<- e0,<- e1];exact hs
  obtain⟨b1,b2⟩:=hgb i (by simp)
  have tb:j1.b=i:=by
   rcases t1.tie with⟨e,_⟩ |⟨e,_⟩
   ·exact absurd e ha
   ·exact e
  exact⟨TD tw hN t0 t1 ha b1 b2 hn (xf hli t1.hj (by rw[t1.kd];decide) tb) hs,fun h=>absurd h (by simp)⟩
end
end Go.Lw
namespace Go.Lw
open Lean.Grind (CommRing)
theorem Mh{n N:Nat}(hN:N=n+1){r:(k:Nat)->T k}(h:T.sgn r n (r n)=1):T.sgn r N (ae N (cr n))=1:=by
 subst hN;rw[If];show T.sgn3 (T.sgn r n (T.zero n)) (T.sgn r n (T.ofQ n 1)) (T.sgn r n (r n)) _=1;rw[h,T.sgn_zero,T.sgn_ofQ];have e:bK 1=1:=by decide +kernel
 rw[e];rfl
theorem xN{ts:LL}{X:Et ts}(h:an X=1):an (ba X)=1:=by
 refine Mh (dB _ _) ?_;rw[xh (le_refl _)]
 have e1:ax (aR ts (sX X)) ts.length=X:=by
  show ae ts.length ((aR ts (sX X)).getD ts.length [])=X;rw[tG,o9];exact bn _ _
 rw[e1];exact h
theorem Hi{ts:LL}(hp:fe ts){X:Et ts}(h:0<an X):an X=1:=by
 rcases(dN _ _ hp).cs X with g |g |g
 ·have g:an X=-1:=g;omega
 ·have g:an X=0:=g;omega
 ·exact g
theorem uv{ts:LL}(hp:fe ts){x y:Et ts}(h:ah hp x=ah hp y):an x=an y:=(dN _ _ hp).sub0 ((jF hp).1 h)
theorem z5{ts:LL}(hp:fe ts)(x:Et ts):an (-x)=-an x:=(dN _ _ hp).neg x
theorem Ps{ts:LL}(hp:fe ts)(x:Et ts):an (x+x)=an x:=by
 have H:=dN (ax ts) ts.length hp;show sg _ _ (x+x)=sg _ _ x;rcases H.cs x with h |h |h
 ·have n:=H.neg x;have a:=H.padd (x:=-x) (y:=-x) oz oz;have e:=H.neg (x+x);rw[show -(x+x)=-x+-x by grind,a]at e;omega
 ·rw[H.zadd h]
 ·rw[H.padd h oz];exact h.symm
section
variable{R:Type}[CommRing R]
theorem LY{p1 p2 q1 q2 i t a x y:R}(hi:i*(((p1-q1)*(p1-q1)+(p2-q2)*(p2-q2))+((p1-q1)*(p1-q1)+(p2-q2)*(p2-q2)))=1)
  (hx:x=p1+a*i*(q1-p1)+t*(i*-(q2-p2))) (hy:y=p2+a*i*(q2-p2)+t*(i*(q1-p1))) :
  ((q1-p1)*(y-p2)-(q2-p2)*(x-p1))+((q1-p1)*(y-p2)-(q2-p2)*(x-p1))=t:=by
 have e:((q1-p1)*(y-p2)-(q2-p2)*(x-p1))+((q1-p1)*(y-p2)-(q2-p2)*(x-p1))=t*(i*(((p1-q1)*(p1-q1)+(p2-q2)*(p2-q2))+((p1-q1)*(p1-q1)+(p2-q2)*(p2-q2)))):=by
  rw[hx,hy];clear hi hx hy;grind
 rw[e,hi];grind
theorem R4{p1 p2 q1 q2 c1 c2 i t k x y:R}(hi:i*((q1-p1)*(q1-p1)+(q2-p2)*(q2-p2))=1)(hk:k=((q1-p1)*(c1-p1)+(q2-p2)*(c2-p2)+t)*i)
  (hx:x=p1+k*(q1-p1)) (hy:y=p2+k*(q2-p2)):(q1-p1)*(x-c1)+(q2-p2)*(y-c2)=t:=by
 have e:(q1-p1)*(x-c1)+(q2-p2)*(y-c2)=k*((q1-p1)*(q1-p1)+(q2-p2)*(q2-p2))-((q1-p1)*(c1-p1)+(q2-p2)*(c2-p2)):=by
  rw[hx,hy];clear hi hk hx hy;grind
 have e2:k*((q1-p1)*(q1-p1)+(q2-p2)*(q2-p2))=((q1-p1)*(c1-p1)+(q2-p2)*(c2-p2)+t)*(i*((q1-p1)*(q1-p1)+(q2-p2)*(q2-p2))):=by
  rw[hk];clear hi hk hx hy e;grind
 rw[e,e2,hi];grind
theorem PT{W1 W2 hh i t D w1 w2:R}(hD:D=W1*W1+W2*W2)(hi:i*D=1)(h1:w1=(t*W1-hh*-W2)*i)(h2:w2=(t*W2-hh*W1)*i):w1*W1+w2*W2=t:=by
 have e:w1*W1+w2*W2=t*(i*D):=by rw[h1,h2,hD];clear hD hi h1 h2;grind
 rw[e,hi];grind
theorem J9{ts:LL}{f:Et ts->R}(h:Hm f){p q:P2 ts}{z z2:Et ts}(hd2:an (az p q+az p q)≠0){t x y:R}
  (hx:x=f (cW p q z z2).1+t*f (gx p q).1) (hy:y=f (cW p q z z2).2+t*f (gx p q).2) :
  ((f q.1-f p.1)*(y-f p.2)-(f q.2-f p.2)*(x-f p.1))+((f q.1-f p.1)*(y-f p.2)-(f q.2-f p.2)*(x-f p.1))=t:=by
 have d:=Gb h p q;have hi:=h.inv _ hd2;rw[h.add,d]at hi;refine LY hi (a:=f z+((f p.1-f q.1)*(f p.1-f q.1)+(f p.2-f q.2)*(f p.2-f q.2))-f z2) ?_ ?_
 ·rw[hx,vB];unfold cM gx;dsimp only;show f (p.1+qE ((1:Int):Rat)*iE (az p q+az p q)*(z+az p q-z2)*(q.1-p.1))+t*f (qE ((1:Int):Rat)*iE (az p q+az p q)*(0-(q.2-p.2)))=_;simp only[h.add,h.mul,h.sub,h.q1,h.nul,d];generalize(f p.1-f q.1)*(f p.1-f q.1)+(f p.2-f q.2)*(f p.2-f q.2)=D;generalize f (iE (az p q+az p q))=i;clear hi hx hy d;grind
 ·rw[hy,vB];unfold cM gx;dsimp only;show f (p.2+qE ((1:Int):Rat)*iE (az p q+az p q)*(z+az p q-z2)*(q.2-p.2))+t*f (qE ((1:Int):Rat)*iE (az p q+az p q)*(q.1-p.1))=_;simp only[h.add,h.mul,h.sub,h.q1,d];generalize(f p.1-f q.1)*(f p.1-f q.1)+(f p.2-f q.2)*(f p.2-f q.2)=D;generalize f (iE (az p q+az p q))=i;clear hi hx hy d;grind
theorem Kt{ts:LL}{f:Et ts->R}(h:Hm f){p q c:P2 ts}(hd:an (bi p q)≠0){t x y:R}
  (hx:x=f (cM p (bG p q c*iE (bi p q)) (aQ q p)).1+t*f (fU p q).1) (hy:y=f (cM p (bG p q c*iE (bi p q)) (aQ q p)).2+t*f (fU p q).2) :
  (f q.1-f p.1)*(x-f c.1)+(f q.2-f p.2)*(y-f c.2)=t:=by
 have hi:=h.inv _ hd
 have eS:f (bi p q)=(f q.1-f p.1)*(f q.1-f p.1)+(f q.2-f p.2)*(f q.2-f p.2):=by
  show f ((q.1-p.1)*(q.1-p.1)+(q.2-p.2)*(q.2-p.2))=_;simp only[h.add,h.mul,h.sub]
 have eE:f (bG p q c)=(f q.1-f p.1)*(f c.1-f p.1)+(f q.2-f p.2)*(f c.2-f p.2):=by
  show f ((q.1-p.1)*(c.1-p.1)+(q.2-p.2)*(c.2-p.2))=_;simp only[h.add,h.mul,h.sub]
 rw[eS]at hi;refine R4 hi (k:=(f (bG p q c)+t)*f (iE (bi p q))) (by rw[eE]) ?_ ?_
 ·rw[hx];unfold cM fU;show f (p.1+bG p q c*iE (bi p q)*(q.1-p.1))+t*f (qE ((1:Int):Rat)*iE (bi p q)*(q.1-p.1))=_;simp only[h.add,h.mul,h.sub,h.q1];generalize f (iE (bi p q))=i;generalize f (bG p q c)=e;clear hi hx hy eS eE;grind
 ·rw[hy];unfold cM fU;show f (p.2+bG p q c*iE (bi p q)*(q.2-p.2))+t*f (qE ((1:Int):Rat)*iE (bi p q)*(q.2-p.2))=_;simp only[h.add,h.mul,h.sub,h.q1];generalize f (iE (bi p q))=i;generalize f (bG p q c)=e;clear hi hx hy eS eE;grind
end
structure CirD(ts T:LL)(x:List Rat×List Rat)(p q:P2 ts)(z z2:Et ts)(m:Int):Prop where
  lf:Lf ts T
  ex:∀d:Et T,ah lf.pos d=(ah lf.pos (aq T q.1)-ah lf.pos (aq T p.1))*(ah lf.pos (dE T x.2)-ah lf.pos (aq T p.2))-(ah lf.pos (aq T q.2)-ah lf.pos (aq T p.2))*(ah lf.pos (dE T x.1)-ah lf.pos (aq T p.1)) ->
    an d=m/\ah lf.pos ((d+d)*(d+d))=ah lf.pos (aq T (bc p z q z2))
section
variable{ts:LL}
theorem Bs{T:LL}(L:Lf ts T){x:List Rat×List Rat}{p q:P2 ts}{z z2:Et ts}(hd2:an (az p q+az p q)≠0){t:Et T}(ht:ah L.pos (t*t)=ah L.pos (aq T (bc p z q z2)))
  (hx:dE T x.1=aq T (cW p q z z2).1+t*aq T (gx p q).1) (hy:dE T x.2=aq T (cW p q z z2).2+t*aq T (gx p q).2) {m:Int} (hm:an t=m):CirD ts T x p q z z2 m:=by
 have g:=J9 L.hm hd2 (z:=z) (z2:=z2) (t:=ah L.pos t) (x:=ah L.pos (dE T x.1)) (y:=ah L.pos (dE T x.2)) (by rw[hx];rfl) (by rw[hy];rfl);refine⟨L,fun d hd=>?_⟩;have e:ah L.pos (d+d)=ah L.pos t:=by rw[fL,hd];exact g
 refine⟨?_,?_⟩
 ·rw[<- hm,<- Ps L.pos d];exact uv L.pos e
 ·rw[bB,e,<- bB];exact ht
theorem Rr{r:Nat}(tw:Tw ts r){p q:P2 ts}{z z2:Et ts}(h0:fw p q z z2=0)(hz:0<an z) :
  ∀(i:Nat)(x:List Rat×List Rat),(dX p q z z2).ps[i]?=some x->CirD ts (dX p q z z2).ts x p q z z2 (if(dX p q z z2).ps.length=1 then 0 else 1-2*(i:Int)):=by
 intro i x;unfold fw lG at h0;unfold dX;split
 ·rename_i hd;rw[if_pos hd]at h0;unfold kJ;split
  ·intro hx;simp at hx
  ·intro hx;simp at hx
 ·rename_i hd;have hd2:=CA tw hd;split
  ·intro hx;simp at hx
  ·rename_i hn;split
   ·rename_i hX;intro hx
    match i,hx with
    |0,hx =>
     have hx:(cW p q z z2).l=x:=Option.some.inj hx;subst hx;have hp:fe ts:=tw.pos;refine Bs (mC hp) hd2 (t:=0) ?_ ?_ ?_ ?_
     ·refine((dO hp).2 ?_).trans ((dO hp).2 ?_).symm
      ·rw[show(0:Et ts)*0=0 by grind];exact(dN _ _ hp).zero
      ·rw[cQ];exact hX
     ·rw[cQ,cQ,dV];grind
     ·rw[cQ,cQ,dV];grind
     ·exact(dN _ _ hp).zero
    |i+1,hx=>simp at hx
   ·rename_i hX;have hX1:0 < an (bc p z q z2):=by omega
    have hp:=qV tw.pos hX1;have L:=qS (bc p z q z2) hp;have e:=qj (bc p z q z2);have s1:=xN (Hi tw.pos hX1);intro hx
    match i,hx with
    |0,hx =>
     have hx:(f8 (bc p z q z2) (cW p q z z2) (fA p q) (dT (bc p z q z2) (az p q))).l=x:=Option.some.inj hx;subst hx;refine Bs L hd2 (t:=ba (bc p z q z2)) (by rw[e];rfl) ?_ ?_ s1
     ·rw[dV];exact congrArg Prod.fst (se (bc p z q z2) (cW p q z z2) p q)
     ·rw[dV];exact congrArg Prod.snd (se (bc p z q z2) (cW p q z z2) p q)
    |1,hx =>
     have hx:(f8 (bc p z q z2) (cW p q z z2) (fA p q) (qE ((-1:Int):Rat)*dT (bc p z q z2) (az p q))).l=x:=Option.some.inj hx;subst hx;refine Bs L hd2 (t:=-ba (bc p z q z2)) (by rw[show -ba (bc p z q z2)*-ba (bc p z q z2)=ba (bc p z q z2)*ba (bc p z q z2) by grind,e];rfl) ?_ ?_ (by rw[z5 hp,s1];rfl)
     ·rw[dV,congrArg Prod.fst (wH (bc p z q z2) (cW p q z z2) p q)];show aL _ _-_*aL _ _=aL _ _+-_*aL _ _;grind
     ·rw[dV,congrArg Prod.snd (wH (bc p z q z2) (cW p q z z2) p q)];show aL _ _-_*aL _ _=aL _ _+-_*aL _ _;grind
    |i+2,hx=>simp at hx
structure LinD(ts T:LL)(x:List Rat×List Rat)(p q c:P2 ts)(z:Et ts)(m:Int):Prop where
  lf:Lf ts T
  ex:∀d:Et T,ah lf.pos d=(ah lf.pos (aq T q.1)-ah lf.pos (aq T p.1))*(ah lf.pos (dE T x.1)-ah lf.pos (aq T c.1))+(ah lf.pos (aq T q.2)-ah lf.pos (aq T p.2))*(ah lf.pos (dE T x.2)-ah lf.pos (aq T c.2)) ->
    an d=m/\ah lf.pos (d*d)=ah lf.pos (aq T (aO p q c z))
theorem Al{T:LL}(L:Lf ts T){x:List Rat×List Rat}{p q c:P2 ts}{z:Et ts}(hd:an (bi p q)≠0){t:Et T}(ht:ah L.pos (t*t)=ah L.pos (aq T (aO p q c z)))
  (hx:dE T x.1=aq T (cM p (bG p q c*iE (bi p q)) (aQ q p)).1+t*aq T (fU p q).1) (hy:dE T x.2=aq T (cM p (bG p q c*iE (bi p q)) (aQ q p)).2+t*aq T (fU p q).2) {m:Int} (hm:an t=m):LinD ts T x p q c z m:=by
 have g:=Kt L.hm hd (c:=c) (t:=ah L.pos t) (x:=ah L.pos (dE T x.1)) (y:=ah L.pos (dE T x.2)) (by rw[hx];rfl) (by rw[hy];rfl);refine⟨L,fun d hd=>?_⟩;have e:ah L.pos d=ah L.pos t:=by rw[hd];exact g
 refine⟨?_,?_⟩
 ·rw[<- hm];exact uv L.pos e
 ·rw[bB,e,<- bB];exact ht
theorem Sp{r:Nat}(tw:Tw ts r){p q c:P2 ts}{z:Et ts}(h0:fC p q=0) :
  ∀(i:Nat)(x:List Rat×List Rat),(dS p q c z).ps[i]?=some x->LinD ts (dS p q c z).ts x p q c z (if(dS p q c z).ps.length=1 then 0 else 1-2*(i:Int)):=by
 intro i x;unfold fC at h0;unfold dS;split
 ·intro hx;simp at hx
 ·rename_i hd;split
  ·intro hx;simp at hx
  ·rename_i hn;split
   ·rename_i hX;intro hx
    match i,hx with
    |0,hx =>
     have hx:(cM p (bG p q c*iE (bi p q)) (aQ q p)).l=x:=Option.some.inj hx;subst hx;have hp:fe ts:=tw.pos;refine Al (mC hp) hd (t:=0) ?_ ?_ ?_ ?_
     ·refine((dO hp).2 ?_).trans ((dO hp).2 ?_).symm
      ·rw[show(0:Et ts)*0=0 by grind];exact(dN _ _ hp).zero
      ·rw[cQ];exact hX
     ·rw[cQ,cQ,dV];grind
     ·rw[cQ,cQ,dV];grind
     ·exact(dN _ _ hp).zero
    |i+1,hx=>simp at hx
   ·rename_i hX
    have hX2:an (aO p q c z)=1:=by
     rcases(dN _ _ tw.pos).cs (aO p q c z)with g |g |g
     ·exact absurd g hn
     ·exact absurd g hX
     ·exact g
    have hX1:0<an (aO p q c z):=by omega
    have hp:=qV tw.pos hX1;have L:=qS (aO p q c z) hp;have e:=qj (aO p q c z);have s1:=xN hX2;intro hx
    match i,hx with
    |0,hx =>
     have hx:(jH (aO p q c z) p (aQ q p) (fc (aO p q c z) (bi p q) (aL (aO p q c z) (bG p q c)+ba (aO p q c z)))).l=x:=Option.some.inj hx;subst hx;refine Al L hd (t:=ba (aO p q c z)) (by rw[e];rfl) ?_ ?_ s1
     ·rw[dV];exact congrArg Prod.fst (wa (aO p q c z) p q c)
     ·rw[dV];exact congrArg Prod.snd (wa (aO p q c z) p q c)
    |1,hx =>
     have hx:(jH (aO p q c z) p (aQ q p) (fc (aO p q c z) (bi p q) (aL (aO p q c z) (bG p q c)-ba (aO p q c z)))).l=x:=Option.some.inj hx;subst hx;refine Al L hd (t:=-ba (aO p q c z)) (by rw[show -ba (aO p q c z)*-ba (aO p q c z)=ba (aO p q c z)*ba (aO p q c z) by grind,e];rfl) ?_ ?_ (by rw[z5 hp,s1];rfl)
     ·rw[dV,congrArg Prod.fst (xc (aO p q c z) p q c)];show aL _ _-_*aL _ _=aL _ _+-_*aL _ _;grind
     ·rw[dV,congrArg Prod.snd (xc (aO p q c z) p q c)];show aL _ _-_*aL _ _=aL _ _+-_*aL _ _;grind
    |i+2,hx=>simp at hx
end
def pinP(l:Li)(T:LL)(bs:List Pq)(j:Jt)(b:Int):P2 T:=if j.a=b then aY l T bs j.b j.on else aY l T bs j.a j.point
def cK(l:Li)(T:LL)(bs:List Pq)(g:Gr):Et T :=
  if g.kind=0 then qE 1
  else if g.kind=1 then jv (aQ (pinP l T bs (ak l g 1) (aI g 1)) (pinP l T bs (ak l g 0) (aI g 0))) (aQ (cF T (bs.getD (aI g 0).toNat bj) (am l (ak l g 2) (aI g 0))) (pinP l T bs (ak l g 0) (aI g 0)))
  else if g.kind=2 then dU (aQ (aY l T bs (ak l g 1).b (ak l g 1).to) (aY l T bs (ak l g 1).b (ak l g 1).on)) (aQ (cF T (bs.getD (aI g 0).toNat bj) (aS l (aI g 0) (ak l g 1).point)) (pinP l T bs (ak l g 0) (aI g 0)))
  else dU (aQ (aY l T bs (ak l g 1).b (ak l g 1).to) (aY l T bs (ak l g 1).b (ak l g 1).on)) (aQ (aY l T bs (ak l g 1).a (ak l g 1).point) (pinP l T bs (ak l g 0) (aI g 0)))
def fI(l:Li)(T:LL)(bs:List Pq)(g:Gr):Et T :=
  if g.kind=0 then qE 1
  else if g.kind=1 then bc (pinP l T bs (ak l g 0) (aI g 0)) (qE (bt (am l (ak l g 2) (aI g 0)) (am l (ak l g 0) (aI g 0)))) (pinP l T bs (ak l g 1) (aI g 1)) (qE (bt (am l (ak l g 2) (aI g 1)) (am l (ak l g 1) (aI g 1))))
  else if g.kind=2 then aO (aY l T bs (ak l g 1).b (ak l g 1).on) (aY l T bs (ak l g 1).b (ak l g 1).to) (pinP l T bs (ak l g 0) (aI g 0)) (qE (bt (aS l (aI g 0) (ak l g 1).point) (am l (ak l g 0) (aI g 0))))
  else qE (gY l (aI g 0) (ak l g 1))*dU (aQ (aY l T bs (ak l g 1).a (ak l g 1).point) (pinP l T bs (ak l g 0) (aI g 0))) (aQ (aY l T bs (ak l g 1).a (ak l g 1).point) (pinP l T bs (ak l g 0) (aI g 0)))
    - qE (cc l (aI g 0) (ak l g 0) (ak l g 1))*qE (cc l (aI g 0) (ak l g 0) (ak l g 1))
theorem kl(l:Li)(a:As)(j:Jt)(b:Int):aB l a j b=pinP l (llq a.rs) (aJ a) j b:=by
 unfold aB pinP;split
 ·exact fZ l a _ _
 ·exact fZ l a _ _
theorem I9(a:As)(b:Int)(q:Rat×Rat):ko a b q=cF (llq a.rs) ((aJ a).getD b.toNat bj) q:=by
 have e:(aJ a).getD b.toNat bj=⟨lq (a.bs.getD b.toNat default).c,lq (a.bs.getD b.toNat default).s,lq (a.bs.getD b.toNat default).x,lq (a.bs.getD b.toNat default).y⟩:=by
  unfold aJ;rw[getD_eq_getElem?_getD,getD_eq_getElem?_getD,getElem?_map];cases a.bs[b.toNat]? <;> rfl
 rw[e];rfl
theorem Oi(l:Li)(a:As)(g:Gr):iU l a g=cK l (llq a.rs) (aJ a) g:=by
 unfold iU cK bS;simp only[kl,fZ,I9]
theorem yv(l:Li)(a:As)(g:Gr):By l a g=fI l (llq a.rs) (aJ a) g:=by
 unfold By fI b7 bS;simp only[kl,fZ];rfl
def oa{T:LL}(k:Int)(d:Et T):Et T:=if k=1 then(d+d)*(d+d)else d*d
section
variable{ts T:LL}(L:Lf ts T)
include L
theorem Lf.pinP{l:Li}{bs bs':List Pq}{j:Jt}(b:Int)(ha:cS bs bs' ts.length j.a)(hb:cS bs bs' ts.length j.b) :
  ah L.pos (Lw.pinP l T bs' j b).1=ah L.pos (aq T (Lw.pinP l ts bs j b).1)/\ah L.pos (Lw.pinP l T bs' j b).2=ah L.pos (aq T (Lw.pinP l ts bs j b).2):=by
 unfold Lw.pinP;split
 ·exact L.pt l hb _
 ·exact L.pt l ha _
theorem JV{l:Li}{bs bs':List Pq}{g:Gr}(h0:g.kind≠0->cS bs bs' ts.length (ak l g 0).a/\cS bs bs' ts.length (ak l g 0).b)(h1:g.kind≠0->cS bs bs' ts.length (ak l g 1).a/\cS bs bs' ts.length (ak l g 1).b)
  (hb:g.kind≠0->cS bs bs' ts.length (aI g 0)):ah L.pos (cK l T bs' g)=ah L.pos (aq T (cK l ts bs g)):=by
 unfold cK
 by_cases k0:g.kind=0
 ·rw[if_pos k0,if_pos k0,L.q]
 ·rw[if_neg k0,if_neg k0];have p0:=L.pinP (l:=l) (aI g 0) (h0 k0).1 (h0 k0).2;have p1:=L.pinP (l:=l) (aI g 1) (h1 k0).1 (h1 k0).2
  have own:∀m,ah L.pos (cF T (bs'.getD (aI g 0).toNat bj) m).1=ah L.pos (aq T (cF ts (bs.getD (aI g 0).toNat bj) m).1)/\ah L.pos (cF T (bs'.getD (aI g 0).toNat bj) m).2=ah L.pos (aq T (cF ts (bs.getD (aI g 0).toNat bj) m).2):=by
   intro m;rw[(hb k0).1];exact L.at (hb k0).2 m
  have qa:=fun pt=>L.pt l (h1 k0).1 pt
  have qb:=fun pt=>L.pt l (h1 k0).2 pt
  by_cases k1:g.kind=1
  ·rw[if_pos k1,if_pos k1];unfold jv crsE aQ;dsimp only;simp only[L.sub,L.mul,bP,bB];rw[p0.1,p0.2,p1.1,p1.2,(own _).1,(own _).2]
  ·rw[if_neg k1,if_neg k1]
   by_cases k2:g.kind=2
   ·rw[if_pos k2,if_pos k2];unfold dU dotE aQ;dsimp only;simp only[L.sub,L.mul,L.add,bP,bB,fL];rw[p0.1,p0.2,(own _).1,(own _).2,(qb _).1,(qb _).2,(qb _).1,(qb _).2]
   ·rw[if_neg k2,if_neg k2];unfold dU dotE aQ;dsimp only;simp only[L.sub,L.mul,L.add,bP,bB,fL];rw[p0.1,p0.2,(qa _).1,(qa _).2,(qb _).1,(qb _).2,(qb _).1,(qb _).2]
theorem xa{l:Li}{bs bs':List Pq}{g:Gr}(p0:g.kind≠0->ah L.pos (Lw.pinP l T bs' (ak l g 0) (aI g 0)).1=ah L.pos (aq T (Lw.pinP l ts bs (ak l g 0) (aI g 0)).1)/\ah L.pos (Lw.pinP l T bs' (ak l g 0) (aI g 0)).2=ah L.pos (aq T (Lw.pinP l ts bs (ak l g 0) (aI g 0)).2))
  (p1:g.kind=1->ah L.pos (Lw.pinP l T bs' (ak l g 1) (aI g 1)).1=ah L.pos (aq T (Lw.pinP l ts bs (ak l g 1) (aI g 1)).1)/\ah L.pos (Lw.pinP l T bs' (ak l g 1) (aI g 1)).2=ah L.pos (aq T (Lw.pinP l ts bs (ak l g 1) (aI g 1)).2))
  (hb:g.kind=2->∀pt,ah L.pos (aY l T bs' (ak l g 1).b pt).1=ah L.pos (aq T (aY l ts bs (ak l g 1).b pt).1)/\ah L.pos (aY l T bs' (ak l g 1).b pt).2=ah L.pos (aq T (aY l ts bs (ak l g 1).b pt).2))
  (ha:g.kind≠0->g.kind≠1->g.kind≠2->∀pt,ah L.pos (aY l T bs' (ak l g 1).a pt).1=ah L.pos (aq T (aY l ts bs (ak l g 1).a pt).1)/\ah L.pos (aY l T bs' (ak l g 1).a pt).2=ah L.pos (aq T (aY l ts bs (ak l g 1).a pt).2)) :
  ah L.pos (fI l T bs' g)=ah L.pos (aq T (fI l ts bs g)):=by
 unfold fI
 by_cases k0:g.kind=0
 ·rw[if_pos k0,if_pos k0,L.q]
 ·rw[if_neg k0,if_neg k0];have p0:=p0 k0
  by_cases k1:g.kind=1
  ·rw[if_pos k1,if_pos k1];have p1:=p1 k1;unfold bc az dU dotE aQ;dsimp only;simp only[L.sub,L.mul,L.add,L.q,bP,bB,fL];rw[p0.1,p0.2,p1.1,p1.2]
  ·rw[if_neg k1,if_neg k1]
   by_cases k2:g.kind=2
   ·rw[if_pos k2,if_pos k2];have qb:=hb k2;unfold aO bi ik dU dotE jv crsE aQ;dsimp only;simp only[L.sub,L.mul,L.add,L.q,bP,bB,fL];rw[p0.1,p0.2,(qb _).1,(qb _).2,(qb _).1,(qb _).2]
   ·rw[if_neg k2,if_neg k2];have qa:=ha k0 k1 k2;unfold dU dotE aQ;dsimp only;simp only[L.sub,L.mul,L.add,L.q,bP,bB,fL];rw[p0.1,p0.2,(qa _).1,(qa _).2]
end
end Go.Lw
namespace Go.Lw
open Lean.Grind (CommRing)
section
variable{R:Type}[CommRing R]
end
section
variable{T:LL}(hp:fe T){p:Pq}
include hp
end
section
variable{l:Li}{T:LL}{bs:List Pq}{g:Gr}
theorem L3(h:g.kind=1):cK l T bs g=jv (aQ (pinP l T bs (ak l g 1) (aI g 1)) (pinP l T bs (ak l g 0) (aI g 0))) (aQ (cF T (bs.getD (aI g 0).toNat bj) (am l (ak l g 2) (aI g 0))) (pinP l T bs (ak l g 0) (aI g 0))):=by
 unfold cK;rw[if_neg oz,if_pos h]
theorem MS(h:g.kind=2):cK l T bs g=dU (aQ (aY l T bs (ak l g 1).b (ak l g 1).to) (aY l T bs (ak l g 1).b (ak l g 1).on)) (aQ (cF T (bs.getD (aI g 0).toNat bj) (aS l (aI g 0) (ak l g 1).point)) (pinP l T bs (ak l g 0) (aI g 0))):=by
 unfold cK;rw[if_neg oz,if_neg oz,if_pos h]
theorem SX(h:g.kind=3):cK l T bs g=dU (aQ (aY l T bs (ak l g 1).b (ak l g 1).to) (aY l T bs (ak l g 1).b (ak l g 1).on)) (aQ (aY l T bs (ak l g 1).a (ak l g 1).point) (pinP l T bs (ak l g 0) (aI g 0))):=by
 unfold cK;rw[if_neg oz,if_neg oz,if_neg oz]
theorem RM(h:g.kind=1):fI l T bs g=bc (pinP l T bs (ak l g 0) (aI g 0)) (qE (bt (am l (ak l g 2) (aI g 0)) (am l (ak l g 0) (aI g 0)))) (pinP l T bs (ak l g 1) (aI g 1)) (qE (bt (am l (ak l g 2) (aI g 1)) (am l (ak l g 1) (aI g 1)))):=by
 unfold fI;rw[if_neg oz,if_pos h]
theorem SL(h:g.kind=2):fI l T bs g=aO (aY l T bs (ak l g 1).b (ak l g 1).on) (aY l T bs (ak l g 1).b (ak l g 1).to) (pinP l T bs (ak l g 0) (aI g 0)) (qE (bt (aS l (aI g 0) (ak l g 1).point) (am l (ak l g 0) (aI g 0)))):=by
 unfold fI;rw[if_neg oz,if_neg oz,if_pos h]
theorem I6(h:g.kind=3):fI l T bs g=qE (gY l (aI g 0) (ak l g 1))*dU (aQ (aY l T bs (ak l g 1).a (ak l g 1).point) (pinP l T bs (ak l g 0) (aI g 0))) (aQ (aY l T bs (ak l g 1).a (ak l g 1).point) (pinP l T bs (ak l g 0) (aI g 0)))
  - qE (cc l (aI g 0) (ak l g 0) (ak l g 1))*qE (cc l (aI g 0) (ak l g 0) (ak l g 1)):=by
 unfold fI;rw[if_neg oz,if_neg oz,if_neg oz]
end
section
variable{l:Li}{T:LL}(hp:fe T){bs:List Pq}
include hp
end
end Go.Lw
namespace Go.Lw
open Go.Proofs
theorem B9{P:Program}{f:FuncId}{sz:Nat}{r:AV}{H H':Hp}(h:∀(a:Option Addr)(cap:Nat),Con P f [.v (.slice a 0 cap)] H r H'):Con P f [.lst sz []] H r H' :=
 ⟨(h none 0).ok,fun ext m w vs he hr hn hv=>by
  have hn1:vs.size=1:=hn;have h0:=hv 0 vs[0] (.lst sz []) (by simp[hn1]) rfl
  have hy:∃a cap,vs[0]=.slice a 0 cap:=by
   generalize vs[0]=y at h0;cases h0 with
   |lst0 a cap=>exact⟨_,_,rfl⟩
   |lst u hb hc hl hs h1 hu hrr=>exact⟨_,_,rfl⟩
  obtain⟨a,cap,hy⟩:=hy;refine(h a cap).ret ext m w vs he hr hn (fun j v x hv2 hx=>?_)
  match j,hx with
  |0,hx =>
   cases hx;have:v=.slice a 0 cap:=by rw[<- hy];have:=Array.getElem?_eq_some_iff.1 hv2;exact this.2.symm
   subst this;exact .v _⟩
theorem Oe(e:AV)(es:List AV)(hc:∀x∈e::es,x.cells.length=1)(hl:(e::es).length<=1000):Con prog 297 [.lst 1 (e::es)] [] (.ms 901 1 0 (e::es).length) [(901,some (.row 1 (e::es)))]:=by
 refine gF func297 (fun k z h=>by cases h) ?_;refine gs (uu (.tmp rfl) (by kernel_rfl) rfl) ?_;refine gC (fun t4=>?_) (fun t4=>?_) (st1:=(2,0));cases t4;refine gs (iH T39 rfl T3 rfl rfl rfl) ?_;refine gs (cz (.tmp rfl) rfl rfl (.tmp rfl) T39 rfl T3 rfl rfl (by simp only[];omega) rfl rfl) ?_ (77777,0);refine gW (Wk.of (sl:=[(2,some (.ms 7 1 0 (e::es).length))]) (hp:=[(7,some (.row 1 (e::es)))]) (.cons rfl (Sub.of (congrArg (AV.ms 7 1 0) (Nat.zero_add _))) .nil) (.k .nil)) ?_;refine gR ?_;exact ay.own1 rfl rfl rfl
theorem Jp(a:Option Addr)(cap:Nat):Con prog 297 [.v (.slice a 0 cap)] [] (.ms 901 1 0 0) [(901,some (.row 1 []))]:=by
 refine gF func297 (fun k z h=>by cases h) ?_;refine gs (vm (.tmp rfl) (by kernel_rfl) rfl) ?_;refine gC (fun t4=>?_) (fun t4=>?_) (st1:=(2,0)) (st2:=(77777,0))
 ·refine gW ((Wk.virt 901 1 rfl).trans<|Wk.o (sl:=[]) (hp:=[(901,some (.row 1 []))])) ?_;refine gR ?_;exact(ay.keep (bq rfl)).sub (Sub.nM _ _ _)
 refine gW (Wk.of (sl:=[(0,some (.lst 1 []))]) (hp:=[]) (.cons rfl (Sub.nil _ _ _) .nil) .nil) ?_;refine gs (iH T39 rfl T3 rfl rfl rfl) ?_;refine gs (cz (.tmp rfl) rfl rfl (.tmp rfl) T39 rfl T3 rfl rfl (by simp) rfl rfl) ?_ (77777,0);refine gW (Wk.o (sl:=[(2,some (.ms 7 1 0 0))]) (hp:=[(7,some (.row 1 []))])) ?_;refine gR ?_;exact ay.own1 rfl rfl rfl
theorem Nd(e:AV)(es:List AV)(hc:∀x∈e::es,x.cells.length=4)(hl:(e::es).length<=1000):Con prog 299 [.lst 4 (e::es)] [] (.ms 900 4 0 (e::es).length) [(900,some (.row 4 (e::es)))]:=by
 refine gF func299 (fun k z h=>by cases h) ?_;refine gs (uu (.tmp rfl) (by kernel_rfl) rfl) ?_;refine gC (fun t4=>?_) (fun t4=>?_) (st1:=(2,0));cases t4;refine gs (iH T38 rfl T69 rfl rfl rfl) ?_;refine gs (cz (.tmp rfl) rfl rfl (.tmp rfl) T38 rfl T69 rfl rfl (by simp only[];omega) rfl rfl) ?_ (77777,0);refine gW (Wk.of (sl:=[(2,some (.ms 7 4 0 (e::es).length))]) (hp:=[(7,some (.row 4 (e::es)))]) (.cons rfl (Sub.of (congrArg (AV.ms 7 4 0) (Nat.zero_add _))) .nil) (.k .nil)) ?_;refine gR ?_;exact ay.own1 rfl rfl rfl
theorem Mn(a:Option Addr)(cap:Nat):Con prog 299 [.v (.slice a 0 cap)] [] (.ms 900 4 0 0) [(900,some (.row 4 []))]:=by
 refine gF func299 (fun k z h=>by cases h) ?_;refine gs (vm (.tmp rfl) (by kernel_rfl) rfl) ?_;refine gC (fun t4=>?_) (fun t4=>?_) (st1:=(2,0)) (st2:=(77777,0))
 ·refine gW ((Wk.virt 900 4 rfl).trans<|Wk.o (sl:=[]) (hp:=[(900,some (.row 4 []))])) ?_;refine gR ?_;exact(ay.keep (bq rfl)).sub (Sub.nM _ _ _)
 refine gW (Wk.of (sl:=[(0,some (.lst 4 []))]) (hp:=[]) (.cons rfl (Sub.nil _ _ _) .nil) .nil) ?_;refine gs (iH T38 rfl T69 rfl rfl rfl) ?_;refine gs (cz (.tmp rfl) rfl rfl (.tmp rfl) T38 rfl T69 rfl rfl (by simp) rfl rfl) ?_ (77777,0);refine gW (Wk.o (sl:=[(2,some (.ms 7 4 0 0))]) (hp:=[(7,some (.row 4 []))])) ?_;refine gR ?_;exact ay.own1 rfl rfl rfl
theorem CN(es:List AV)(hc:∀x∈es,x.cells.length=1)(hl:es.length<=1000):Con prog 297 [.lst 1 es] [] (.ms 901 1 0 es.length) [(901,some (.row 1 es))]:=by
 cases es with
 |nil=>exact B9 Jp
 |cons e es=>exact Oe e es hc hl
theorem Ub(es:List AV)(hc:∀x∈es,x.cells.length=4)(hl:es.length<=1000):Con prog 299 [.lst 4 es] [] (.ms 900 4 0 es.length) [(900,some (.row 4 es))]:=by
 cases es with
 |nil=>exact B9 Mn
 |cons e es=>exact Nd e es hc hl
theorem SY(es:List AV)(hc:∀x∈es,x.cells.length=1)(hl:es.length<=1000):FP 297 [.lst 1 es] (.lst 1 es):=by
 have h:=Con.freeze oz (CN es hc hl)
 rwa [drop_zero,take_length]at h
theorem C9(ms:List Int):∀x∈ms.map i64,x.cells.length=1:=fun x hx=>by obtain⟨m,_,rfl⟩:=List.mem_map.1 hx;rfl
theorem KC(bs:List Pq):∀x∈bs.map Pq.av,x.cells.length=4:=fun x hx=>by obtain⟨m,_,rfl⟩:=List.mem_map.1 hx;rfl
theorem tI{n e:Nat}{x:List Rat}(h:Nm n e x)(he:e<=100000000000):FP 298 [nA x] (nA x):=by
 have hlen:=h.nl.len5 h.five;have hqs:∀q∈x,Qs q:=fun q hq=>h.cb.qs oz hq
 refine aj func298 ?_;refine gl ?_;refine gW (Wk.virt 901 3 rfl) ?_;refine aU [6,7] [] (fun(j:Nat)=>[(3,some (.ms 901 3 0 j)),(8,some (i64 j))]) (fun j=>[(901,some (.row 3 ((x.take j).map qA)))]) (fun j=>j<=x.length) (fun j=>x.length-j) 0 (zero_le _) ?_ (h1:=(.cons rfl (Sub.nM _ _ _) (.k .nil)));rintro j hj K1 J1;refine gC (fun t9=>?_) (fun t9=>?_) (st2:=(7,0))
 ·have hjn:=a5 t9;obtain⟨q,hq⟩:=aw hjn;have hadd:=mx (rt q) (rt 0) (hqs q (mem_of_getElem? hq)).ok Qs.zero.ok;rw[tT,cf]at hadd;refine gi (aA hq) ?_;refine gc (Con.sA (.cons (.refl _) (.cons jp .nil)) hadd) ?_;refine gs (cz (.tmp rfl) rfl (by rw[length_map,length_take];omega) (.tmp rfl) T67 rfl T45 rfl rfl (by simp only[length_cons,length_nil];omega) rfl rfl) ?_ (6,0);refine gW (Wk.of (sl:=[(6,some (nA x)),(7,some (i64 x.length)),(8,some (i64 j)),(3,some (.ms 17 3 0 (j+1)))]) (hp:=[(17,some (.row 3 ((x.take (j+1)).map qA)))]) a7 (.cons rfl (BlkSub.of (by rw[ef hq,map_append];rfl)) .nil)) ?_ (6,0);refine gW (Wk.rk (k:=17) (d:=901) rfl rfl) ?_;refine ga aN ?_;exact aP J1 (j+1) hjn
 have hjn:=bh hj t9;subst hjn;refine gW ((Wk.freeze (k:=901) rfl).trans<|Wk.of (sl:=[(3,some (nA x))]) (hp:=[]) (.cons rfl (Sub.of (by rw[bQ (by simp)];simp[nA])) .nil) .nil) ?_;refine af ?_;rfl
theorem Sj{a:Aq}{n e:Nat}(h5:n<=5)(ht:∀x∈a.ts,Nm n e x)(hb:∀p∈a.bs,Pq.ok n e p)(he:e<=100000000000)(l1:a.ts.length<=100)(l2:a.bs.length<=100)(l3:a.ms.length<=100):FP 199 [a.av] a.av:=by
 refine aj func199 ?_;refine gc (SY _ (C9 _) (by rw[length_map];omega)) ?_;refine gl ?_;refine gW (Wk.virt 900 1 rfl) ?_;refine aU [1,2,3,14,15] [1,2] (fun(i:Nat)=>[(16,some (i64 i))]) (fun i=>[(3,some (.box [.ms 900 1 0 i,nS,.lst 1 (a.ms.map i64)])),(900,some (.row 1 ((a.ts.take i).map nA)))]) (fun i=>i<=a.ts.length) (fun i=>a.ts.length-i) 0 (zero_le _) ?_ (h2:=(.cons rfl (BlkSub.bL (.cons (.nM _ _ _) (.cons (.refl _) (.cons (.refl _) .nil))) rfl) (.k .nil)));rintro i hi K1 J1;refine gC (fun t17=>?_) (fun t17=>?_) (st2:=(7,0))
 ·have hin:=a5 t17;obtain ⟨d,hd⟩:=aw hin;refine gi (aA hd) ?_;refine gc (tI (ht d (mem_of_getElem? hd)) he) ?_;refine gs (cz (.tmp rfl) rfl (by rw [length_map,length_take]; omega) (.tmp rfl) T35 rfl T67 rfl rfl (by simp only [length_cons,length_nil]; omega) rfl rfl) ?_;refine gD ?_ (6,0);refine gW (Wk.of (sl:=[(1,some (.ptr 1 0)),(2,some (.ptr 2 0)),(3,some (.ptr 3 0)),(14,some (.lst 1 (a.ts.map nA))),(15,some (i64 a.ts.length)),(16,some (i64 i))]) (hp:=[(1,some (.box a.cs)),(2,some (.box [nS,nS,nS])),(3,some (.box [.ms 26 1 0 (i + 1),nS,.lst 1 (a.ms.map i64)])),(26,some (.row 1 ((a.ts.take (i + 1)).map nA)))]) a7 (.k (.k (.k (.cons rfl (BlkSub.of (by rw [ef hd,map_append]; rfl)) .nil))))) ?_ (6,0)
  refine gW (Wk.rk (k:=26) (d:=900) rfl rfl) ?_;refine ga aN ?_;exact aP J1 (i+1) hin
 have hin:=bh hi t17;subst hin;refine gW ((Wk.freeze (k:=900) rfl).trans<|Wk.of (sl:=[(1,some (.ptr 1 0)),(2,some (.ptr 2 0)),(3,some (.ptr 3 0))]) (hp:=[(1,some (.box a.cs)),(2,some (.box [nS,nS,nS])),(3,some (.box [.lst 1 (a.ts.map nA),nS,.lst 1 (a.ms.map i64)]))]) a7 (.k (.k (.cons rfl (BlkSub.bL (.cons (Sub.of (by rw[bQ (by simp)];simp)) (.cons (.refl _) (.cons (.refl _) .nil))) rfl) .nil)))) ?_;refine gl ?_;refine gW (Wk.virt 902 4 rfl) ?_;refine aU [1,2,3,31,32] [1,2] (fun(i:Nat)=>[(33,some (i64 i))]) (fun i=>[(3,some (.box [.lst 1 (a.ts.map nA),.ms 902 4 0 i,.lst 1 (a.ms.map i64)])),(902,some (.row 4 ((a.bs.take i).map Pq.av)))]) (fun i=>i<=a.bs.length) (fun i=>a.bs.length-i) 0 (zero_le _) ?_ (h2:=(.cons rfl (BlkSub.bL (.cons (.refl _) (.cons (.nM _ _ _) (.cons (.refl _) .nil))) rfl) (.k .nil)));rintro i hi K2 J2;refine gC (fun t34=>?_) (fun t34=>?_) (st2:=(12,0))
 ·have hin:=a5 t34;obtain ⟨p,hp⟩:=aw hin;have ok:=hb p (mem_of_getElem? hp);refine gi (aA hp) ?_;refine gc (tI ok.c he) ?_;refine gc (tI ok.s he) ?_;refine gc (tI ok.x he) ?_;refine gc (tI ok.y he) ?_;refine gs (cz (.tmp rfl) rfl (by rw [length_map,length_take]; omega) (.tmp rfl) T38 rfl T69 rfl rfl (by simp only [length_cons,length_nil]; omega) rfl rfl) ?_;refine gD ?_ (11,0);refine gW (Wk.of (sl:=[(1,some (.ptr 1 0)),(2,some (.ptr 2 0)),(3,some (.ptr 3 0)),(31,some (.lst 4 (a.bs.map Pq.av))),(32,some (i64 a.bs.length)),(33,some (i64 i))]) (hp:=[(1,some (.box a.cs)),(2,some (.box [nS,nS,nS])),(3,some (.box [.lst 1 (a.ts.map nA),.ms 53 4 0 (i + 1),.lst 1 (a.ms.map i64)])),(53,some (.row 4 ((a.bs.take (i + 1)).map Pq.av)))]) a7 (.k (.k (.k (.cons rfl (BlkSub.of (by rw [ef hp,map_append]; rfl)) .nil))))) ?_ (11,0)
  refine gW (Wk.rk (k:=53) (d:=902) rfl rfl) ?_;refine ga aN ?_;exact aP J2 (i+1) hin
 have hin:=bh hi t34;subst hin;refine gW ((Wk.freeze (k:=902) rfl).trans<|Wk.of (sl:=[(2,some (.ptr 2 0)),(3,some (.ptr 3 0))]) (hp:=[(2,some (.box [nS,nS,nS])),(3,some (.box a.cs))]) a7 (.k (.cons rfl (BlkSub.bL (.cons (.refl _) (.cons (Sub.of (by rw[bQ (by simp)];simp)) (.cons (.refl _) .nil))) rfl) .nil))) ?_;refine af ?_;rfl
theorem Nn{a:Aq}{g:Gr}{s:Sv}(hb:∀b∈g.bo,0<=b/\b<a.bs.length)(hl:s.ps.length=g.bo.length)(l1:a.bs.length<=100)(l2:a.ms.length<=100)(l3:g.bo.length<=100):FP 201 [a.av,g.av,s.av] (a.nxt g s).av:=by
 refine aj func201 ?_;refine gt (aG (Ub _ (KC _) (by rw[length_map];omega)) (cA rfl) aH rfl rfl) ?_;refine gt (aG (CN _ (C9 _) (by rw[length_map];omega)) (cA rfl) aH rfl rfl) ?_;refine gs (cz (.tmp rfl) rfl rfl (.tmp rfl) T39 rfl T3 rfl rfl (by simp only[length_map,length_cons,length_nil];omega) rfl rfl) ?_;refine gD ?_ (2,0);refine gW ((Wk.freeze (k:=21) rfl).trans<|Wk.of (sl:=[(3,some (.ptr 3 0)),(4,some (.ptr 4 0)),(5,some (.ptr 5 0)),(6,some (.ptr 6 0)),(7,some (.ptr 7 0))]) (hp:=[(3,some (.box a.cs)),(4,some (.box g.av.cells)),(5,some (.box s.av.cells)),(6,some (.box [nS,nS,nS])),(7,some (.box [.lst 1 (s.ts.map nA),.ms 900 4 0 a.bs.length,.lst 1 ((a.ms++[s.mode]).map i64)])),(900,some (.row 4 ((aZ a.bs (g.bo.take 0) (s.ps.take 0)).map Pq.av)))]) a7 (.k (.k (.k (.k (.cons rfl (BlkSub.bL (.cons (.refl _) (.cons (Sub.of (congrArg (AV.ms 900 4 0) (length_map _))) (.cons (Sub.of (by rw[bQ (by simp)];simp)) .nil))) rfl) (.k .nil))))))) ?_
 refine gl ?_;refine aU [3,4,5,6,7,24,25] [3,4,5,6,7] (fun(i:Nat)=>[(26,some (i64 i))]) (fun i=>[(900,some (.row 4 ((aZ a.bs (g.bo.take i) (s.ps.take i)).map Pq.av)))]) (fun i=>i<=g.bo.length) (fun i=>g.bo.length-i) 0 (zero_le _) ?_;rintro i hi K1 J1;refine gC (fun t27=>?_) (fun t27=>?_) (st2:=(7,0))
 ·have hin:=a5 t27;obtain⟨b,hbi⟩:=aw hin;obtain⟨p,hp⟩:=aw (l:=s.ps) (i:=i) oz;obtain⟨hb0,hb1⟩:=hb b (mem_of_getElem? hbi);have hpl:=vM a.bs (g.bo.take i) (s.ps.take i);obtain⟨o,ho⟩:=aw (l:=aZ a.bs (g.bo.take i) (s.ps.take i)) (i:=b.toNat) oz;refine gi (aA hbi) ?_;refine gi (aA hp) ?_;refine gs (mf (.tmp rfl) (.tmp rfl) T38 rfl T69 rfl oz oz rfl) ?_;refine gs (cw (.tmp rfl) rfl (by rw[Nat.zero_add,getElem?_map,ho];rfl) rfl (.tmp rfl) rfl rfl T69 rfl rfl) ?_;refine gD ?_;refine ga aN ?_;exact aP J1 (i+1) hin (hw:=Wk.of a7 (.cons rfl (BlkSub.of (by rw[RR hbi hp,map_set,Nat.zero_add];rfl)) (.k (.k (.k (.k (.k .nil)))))))
 have hin:=bh hi t27;subst hin;refine gW ((Wk.freeze (k:=900) rfl).trans<|Wk.of (sl:=[(6,some (.ptr 6 0)),(7,some (.ptr 7 0))]) (hp:=[(6,some (.box [nS,nS,nS])),(7,some (.box (a.nxt g s).cs))]) a7 (.k (.cons rfl (BlkSub.bL (.cons (.refl _) (.cons (Sub.of (by rw[bQ (by rw[length_map,vM])];rw[take_length,take_of_length_le oz];rfl)) (.cons (.refl _) .nil))) rfl) .nil))) ?_;refine af ?_;rfl
abbrev ft(l:Li)(xs:List Tn)(G:List Gr)(fo:FuncId)(caps:List AV)(sg:Bool)(o:AV):List AV:=l.av.cells++[.lst 4 (xs.map Tn.av),.lst 4 (G.map Gr.av),.cl fo [] caps,bl sg,o]
abbrev eZ(l:Li)(xs:List Tn)(G:List Gr)(fo:FuncId)(caps:List AV)(sg:Bool)(k:Nat)(es:List AV):Hp :=
  [(1000,some (.box (ft l xs G fo caps sg (.ms k 3 0 es.length)))),(k,some (.row 3 es))]
theorem vl{k k0:Nat}{x y:Option Blk}{z:Blk}(h0:1000<=k0)(h:lk [(1000,x),(k0,y)] k=some z):1000<=k:=by
 rw[aT]at h;split at h
 ·omega
 ·rw[aT]at h;split at h
  ·omega
  ·cases h
theorem U7{l:Li}{xs:List Tn}{G:List Gr}{fo:FuncId}{caps:List AV}{sg:Bool}{es:List AV}{g:Gr}(hd:g.kind=0->0<=g.driver/\g.driver<xs.length)(hl:xs.length<=100) :
  Con prog 200 [.ptr 1000 0,g.av] (eZ l xs G fo caps sg 1001 es) (bV g xs).av (eZ l xs G fo caps sg 1001 es):=by
 refine gF func200 (fun k z h=>vl oz h) ?_;refine gC (fun t7=>?_) (fun t7=>?_)
 ·have hk : g.kind ≠ 0 := by simpa [aa] using t7
  refine gR ?_;exact(ay.keep (lL rfl rfl)).sub (by unfold bV;rw[if_neg hk];exact Sub.agg (.cons (.refl _) (.cons (Sub.nil _ _ _) (.cons (Sub.nil _ _ _) (.cons (.refl _) .nil)))) rfl)
 have hk:g.kind=0:=by simpa[aa]using t7
 obtain⟨h0,h1⟩:=hd hk;obtain⟨x,hx⟩:=aw (l:=xs) (i:=g.driver.toNat) oz;refine gi (gh (n:=g.driver.toNat) oz hx) ?_;refine gD ?_;refine gR ?_;exact(ay.keep (lL rfl rfl)).sub (by unfold bV;rw[if_pos hk,ao hx];exact .refl _)
theorem L9:kt (.agg [nS,nS,nS,nS]) bj.av:=by
 refine⟨rfl,?_⟩;intro j x y hx hy
 match j,hx,hy with
 |0,hx,hy=>cases hx;cases hy;exact⟨rfl,.nil _ _ _⟩
 |1,hx,hy=>cases hx;cases hy;exact⟨rfl,.nil _ _ _⟩
 |2,hx,hy=>cases hx;cases hy;exact⟨rfl,.nil _ _ _⟩
 |3,hx,hy=>cases hx;cases hy;exact⟨rfl,.nil _ _ _⟩
theorem MD(n:Nat):BlkSub (.row 4 (List.replicate n (.agg [nS,nS,nS,nS]))) (.row 4 ((List.replicate n bj).map Pq.av)):=by
 refine .row (by simp) ?_;intro i e e' he he';rw[map_replicate,getElem?_replicate]at he';rw[getElem?_replicate]at he;split at he
 ·rename_i h;rw[if_pos h]at he';cases he;cases he'
  exact L9
 ·cases he
theorem Oa:kg.av=.agg [nA (sh 0 (((1:Int):Rat):Rat)),nA [],nA [],nA []]:=by
 have h:sh 0 (((1:Int):Rat):Rat)=[1]:=by decide +kernel
 rw[h];rfl
theorem Ud{l:Li}{xs:List Tn}{G:List Gr}{fo:FuncId}{caps:List AV}{sg:Bool}{es:List AV}(h0:0<l.bo.length)(hl:l.bo.length<=100) :
  Con prog 101 [.ptr 1000 0] (eZ l xs G fo caps sg 1001 es) (eL l).av (eZ l xs G fo caps sg 1001 es):=by
 refine gF func101 (fun k z h=>vl oz h) ?_;refine gl ?_;refine gs (gX (.tmp rfl) T38 rfl T69 rfl rfl oz (by dsimp only;omega) rfl) ?_ (2,0);refine gW (Wk.of (sl:=[(2,some (.ptr 2 0)),(3,some (.ptr 3 0))]) (hp:=[(2,some (.box [nS,nS,nS])),(3,some (.box [nS,.ms 10 4 0 l.bo.length,nS])),(10,some (.row 4 ((List.replicate l.bo.length bj).map Pq.av))),(1000,some (.box (ft l xs G fo caps sg (.ms 1001 3 0 es.length)))),(1001,some (.row 3 es))]) a7 (.k (.k (.cons rfl (MD _) (.k (.k .nil)))))) ?_;refine gc (kv 1 oz) ?_;refine gc (lY (q:=((1:Int):Rat)) (Qb.one.qs oz)) ?_;refine gs (b8 (n:=0) (.tmp rfl) (.const _) T38 rfl T69 rfl oz oz rfl) ?_ (2,7);refine gs (iJ (e:=bj.av) (e':=.agg [nA (sh 0 (((1:Int):Rat):Rat)),nA [],nA [],nA []]) (.tmp rfl) rfl (by rw[getElem?_map,getElem?_replicate,if_pos h0];rfl) (.tmp rfl) rfl rfl T67 rfl rfl rfl) ?_;refine gD ?_ (3,0);refine gW ((Wk.freeze (k:=10) rfl).trans<|Wk.of (sl:=[(2,some (.ptr 2 0)),(3,some (.ptr 3 0))]) (hp:=[(2,some (.box [nS,nS,nS])),(3,some (.box [nS,.lst 4 ((eL l).bs.map Pq.av),nS])),(1000,some (.box (ft l xs G fo caps sg (.ms 1001 3 0 es.length)))),(1001,some (.row 3 es))]) a7 (.k (.cons rfl (BlkSub.bL (.cons (.refl _) (.cons (Sub.of (by rw[bQ (by simp)];unfold eL;rw[map_set,Oa])) (.cons (.refl _) .nil))) rfl) (.k (.k .nil))))) ?_
 refine gR ?_;exact(ay.keep (lL rfl rfl)).sub (Sub.agg (.cons (Sub.nil _ _ _) (.cons (.refl _) (.cons (Sub.nil _ _ _) .nil))) rfl)
theorem IV(k m:Int):FP 198 [i64 k,i64 m] (bl true):=by
 refine aj func198 ?_;refine af ?_;rfl
theorem Mq{modes:List Int}{k:Nat}(hk:k<modes.length)(hl:modes.length<=100)(m:Int):FP 223 [i64 k,i64 m,.iptr [.lst 1 (modes.map i64)]] (bl (decide (m=modes.getD k 0))):=by
 obtain⟨x,hx⟩:=aw hk;refine aj func223 ?_;refine gi (aA hx) ?_;refine gR ?_;exact dF (Sub.of (by rw[ao hx,oQ];rfl))
def tt(l:Li)(xs:List Tn):Nat:=if splitE l≠0 then splitE l else if xs.length≠l.dv.length then 10 else eH (xs.map Tn.err)
def cH(l:Li)(xs:List Tn):Nat:=if aD l≠0 then aD l else tt l xs
def r4(e:Nat)(l:Li)(xs:List Tn):Hp:=if e=0 then[(900,some (.box (ft l xs (splitG l) 198 [] false (nS))))]else[]
theorem uP{e:Nat}(h:e≠0){l:Li}{xs:List Tn}:r4 e l xs=[]:=if_neg h
theorem V4{l:Li}{xs:List Tn}{e:Nat}(he:(if aD l=0 then splitE l else aD l)=e)(h:e≠0):cH l xs=e:=by
 unfold cH tt
 by_cases h1:aD l=0
 ·rw[if_pos h1]at he;rw[if_neg oz,if_pos oz,he]
 ·rw[if_neg h1]at he;rw[if_pos h1,he]
theorem Cq{l:Li}{xs:List Tn}(h:aD l=0)(hs:splitE l=0):cH l xs=if xs.length≠l.dv.length then 10 else eH (xs.map Tn.err):=by
 unfold cH tt;rw[if_neg oz,if_neg oz]
theorem Gf(l:Li)(hl:l.ok)(xs:List Tn)(hx:∀x∈xs,x.t.ok)(hn:xs.length<=100) :
  Con prog 99 [l.av,.lst 4 (xs.map Tn.av)] [] (.tup [qG (cH l xs),br (cH l xs)]) (r4 (cH l xs) l xs):=by
 have hld:=hl.ld;refine gF func99 (fun k z h=>by cases h) ?_;refine gc (Ae l hl) ?_;refine gC (fun t17=>?_) (fun t17=>?_)
 ·have h1:=df t17;refine gR ?_;rw[V4 rfl h1,kR h1,uP h1];exact kq rfl
 have h1:=cZ t17;obtain⟨hli,hsp⟩:=GG h1;rw[show(if aD l=0 then splitG l else[])=splitG l from if_pos hli];refine gl ?_;refine gl ?_;refine gC (fun t24=>?_) (fun t24=>?_)
 ·have h2:=yn t24;have he:cH l xs = 10:=by rw [Cq hli hsp,if_pos h2]
  refine gR ?_;rw[he,kR (by decide),uP (by decide)];exact kq rfl
 have h2:=A9 t24;have he0:cH l xs=eH (xs.map Tn.err):=by rw[Cq hli hsp,if_neg oz]
 refine gl ?_;refine aU [1,2,6,26,27] [2] (fun(i:Nat)=>[(28,some (i64 i))]) (fun _=>[]) (fun i=>i<=xs.length/\∀y∈xs.take i,y.err=0) (fun i=>xs.length-i) 0 ⟨zero_le _,fun y hy=>by simp at hy⟩ ?_;rintro i ⟨hi,hz⟩ K1 J1;refine gC (fun t29=>?_) (fun t29=>?_) (st2:=(13,0))
 ·have hin:=a5 t29;obtain⟨x,hxi⟩:=aw hin;refine gi (aA hxi) ?_;refine gc (uy x (hx x (mem_of_getElem? hxi))) ?_;refine gC (fun t35=>?_) (fun t35=>?_)
  ·have h3:=df t35;have he:cH l xs = x.err:=by rw [he0]; exact Dg hxi hz h3
   refine gR ?_;rw[he,kR h3,uP h3];exact kq rfl
  have h3:=cZ t35;refine ga aN ?_;exact aP J1 (i+1) ⟨hin,fun z hz2=>by rw[ef hxi]at hz2;rcases List.mem_append.1 hz2 with h9 |h9;exact hz z h9;(rw[List.mem_singleton.1 h9];exact h3)⟩
 have hin:=bh hi t29;have he:cH l xs=0:=by rw[he0];exact qD (fun y hy=>hz y (by rw[hin,take_length];exact hy))
 refine gW (Wk.o (sl:=[(1,some (.lst 4 (xs.map Tn.av))),(2,some (.ptr 2 0)),(6,some (.lst 4 ((splitG l).map Gr.av)))]) (hp:=[(2,some (.box l.av.cells))])) ?_ (77777,0);refine gW (Wk.of (sl:=[(4,some (.ptr 42 0)),(5,some (.v .nilIface))]) (hp:=[(42,some (.box (ft l xs (splitG l) 198 [] false (nS))))]) a7 (.cons rfl (BlkSub.bL (.cons (.refl _) (.cons (.refl _) (.cons (.refl _) (.cons (.refl _) (.cons (.refl _) (.cons (.refl _) (.cons ((Sub.fn0 _).trans (qX rfl)) (.cons (.refl _) (.cons (.refl _) .nil))))))))) rfl) .nil)) ?_ (77777,0);refine gW (Wk.rk (k:=42) (d:=900) rfl rfl) ?_;refine gR ?_;rw[he];exact ay.keep (bq rfl)
section
variable{P:Program}{N:Nat}{R:Array Oper}{s:AS}{pos:String}{after:Array Edge}
theorem Au{d f k k2:Nat}{bx bx2:Blk}{args:Array Operand}{ts:Array TypeId}{xs:List AV}{r:AV}{t:TypeId}
  (hcon:Con P f xs [(k,some bx),(k2,some bx2)] r [(k,some bx),(k2,some bx2)]) (ha:EvL s args.toList xs) (hne:Nat.beq k2 k=false) (hk:s.blk k=some bx) (hk2:s.blk k2=some bx2)
  (hok:iP s [(k,some bx),(k2,some bx2)] [(k,some bx),(k2,some bx2)] r=true) (hN:Nat.blt d N=true) :
  Step P N R s ⟨some d,.call ⟨.value (.func f),args,ts⟩,t,pos,after,none⟩ ⟨some r,[],eG args.toList,[k,k2]⟩:=by
 have hne':k2≠k:=fun e=>by rw[e,Nat.beq_refl]at hne;cases hne
 refine Step.weaken (aG (d:=d) hcon ha (fun k' z h=>by
  rcases mQ h with⟨rfl,h9⟩ |⟨_,rfl,h9⟩
  ·cases h9;exact hk
  ·cases h9;exact hk2) hok hN) (fun s' h=>h) (fun s' h k' hk'=>?_) (fun s' h=>?_)
 ·left;simp only[map_append,dl,map_cons,map_nil,mem_append,mem_cons,not_mem_nil,or_false]at hk' ⊢;rcases hk' with h9 |h9 <;> exact h9
 ·intro C m a w hr;refine ⟨m,hr.weak (fun t x hx=>⟨x,hx,.refl _⟩) (fun k' x hx=>⟨x,?_,.refl _⟩)⟩;have hb:lk s'.hp k = some bx:=(h.2 k (by simp)).trans hk;have hb2:lk s'.hp k2 = some bx2:=(h.2 k2 (by simp)).trans hk2;show lk ([(k,some bx),(k2,some bx2)] ++ dl [(k,some bx),(k2,some bx2)] ++ s'.hp) k' = some x;have hx':lk s'.hp k' = some x:=hx;simp only [dl,map_cons,map_nil,List.cons_append,nil_append,aT]
  by_cases e:k'=k
  ·rw[if_pos e];rw[e,hb]at hx';exact hx'
  ·rw[if_neg e]
   by_cases e2:k'=k2
   ·rw[if_pos e2];rw[e2,hb2]at hx';exact hx'
   ·rw[if_neg e2,if_neg e,if_neg e2];exact hx'
end
def pi(k:Nat):Nat:=bif Nat.beq k 1001 then 901 else bif Nat.beq k 901 then 1001 else k
theorem MW(k:Nat):pi (pi k)=k:=by
 by_cases h1:k=1001
 ·subst h1;rfl
 ·by_cases h2:k=901
  ·subst h2;rfl
  ·have nb:∀{a b:Nat},a≠b->Nat.beq a b=false:=fun h=>by
    cases h9:Nat.beq _ _ with
    |false=>rfl
    |true=>exact absurd (eq_of_beq_eq_true h9) h
   have e:pi k=k:=by simp only[pi,nb h1,nb h2,cond_false]
   rw[e,e]
theorem Lx{l:Li}{xs:List Tn}{G:List Gr}{fo:FuncId}{caps:List AV}{sg:Bool}{es es':List AV}{a:Aq}{e:Nat}
  (h:Con prog 100 [.ptr 1000 0,a.av] (eZ l xs G fo caps sg 1001 es) (br e) (eZ l xs G fo caps sg 900 es')) :
  Con prog 100 [.ptr 1000 0,a.av] (eZ l xs G fo caps sg 901 es) (br e) (eZ l xs G fo caps sg 900 es') :=
 Con.pm MW h
theorem V9{l:Li}{xs:List Tn}{G:List Gr}{fo:FuncId}{caps:List AV}{sg:Bool}{o:List Aq}{a:Aq}(hk:a.ms.length=G.length)(hG:G.length<=100)(ho:o.length<=1000)
  (hcl:FP 199 [a.av] a.av) :
  Con prog 100 [.ptr 1000 0,a.av] (eZ l xs G fo caps sg 1001 (o.map Aq.av)) (br 0) (eZ l xs G fo caps sg 900 ((o++[a]).map Aq.av)):=by
 refine gF func100 (fun k z h=>vl oz h) ?_;refine gl ?_;refine gl ?_;refine gC (fun t21=>?_) (fun t21=>?_) (st2:=(77777,0))
 ·refine gc hcl ?_;refine gs (cz (.tmp rfl) rfl (by rw [length_map]) (.tmp rfl) T85 rfl T41 rfl rfl (by simp only [length_map,length_cons,length_nil]; omega) rfl rfl) ?_;refine gD ?_ (4,0);refine gW (Wk.of (sl:=[(4,some (.v .nilIface))]) (hp:=[(1000,some (.box (ft l xs G fo caps sg (.ms 30 3 0 ((o ++ [a]).map Aq.av).length)))),(30,some (.row 3 ((o ++ [a]).map Aq.av)))]) a7 (.cons rfl (BlkSub.bL (.cons (.refl _) (.cons (.refl _) (.cons (.refl _) (.cons (.refl _) (.cons (.refl _) (.cons (.refl _) (.cons (.refl _) (.cons (.refl _) (.cons (Sub.of (by simp)) .nil))))))))) rfl) (.cons rfl (BlkSub.of (by rw [map_append]; rfl)) .nil))) ?_ (4,0)
  refine gW (Wk.rk (k:=30) (d:=900) rfl rfl) ?_;refine gR ?_;exact ay.keep (lL rfl rfl)
 exact absurd t21 (by rw[hk];simp[aa])
theorem mo(F:Int->Bool)(sg:Bool)(f:Sv->List Aq×Nat)(s:Sv)(r:List Sv) :
  ez F sg f (s::r)=if F s.mode=false then ez F sg f r else if(f s).2≠0 then f s else if sg=true then f s else((f s).1++(ez F sg f r).1,(ez F sg f r).2):=rfl
theorem rD{α:Type}{l:List α}{i:Nat}{x:α}(h:l[i]?=some x):l.drop i=x::l.drop (i+1):=by
 obtain⟨hi,e⟩:=List.getElem?_eq_some_iff.1 h;rw[List.drop_eq_getElem_cons hi,e]
def oV(F:Int->Bool)(sg:Bool)(f:Sv->List Aq×Nat)(S:List Sv)(i:Nat)(c:List Aq):Prop :=
  i<=S.length/\ez F sg f S=(c++(ez F sg f (S.drop i)).1,(ez F sg f (S.drop i)).2)
theorem Mc(F:Int->Bool)(sg:Bool)(f:Sv->List Aq×Nat)(S:List Sv):oV F sg f S 0 []:=⟨zero_le _,rfl⟩
section
variable{F:Int->Bool}{sg:Bool}{f:Sv->List Aq×Nat}{S:List Sv}{i:Nat}{c:List Aq}(h:oV F sg f S i c){s:Sv}(hs:S[i]?=some s)
include h hs
theorem UZ(hF:F s.mode=false):oV F sg f S (i+1) c:=by
 have h2:=h.2;rw[rD hs,mo,if_pos hF]at h2;exact⟨(List.getElem?_eq_some_iff.1 hs).1,h2⟩
theorem KL(hF:F s.mode=true)(he:(f s).2≠0):ez F sg f S=(c++(f s).1,(f s).2):=by
 have h2:=h.2;rw[rD hs,mo,if_neg (by rw[hF];simp),if_pos he]at h2;exact h2
theorem SD(hF:F s.mode=true)(he:(f s).2=0)(h1:sg=true):ez F sg f S=(c++(f s).1,0):=by
 have h2:=h.2;rw[rD hs,mo,if_neg (by rw[hF];simp),if_neg oz,if_pos h1,he]at h2;exact h2
theorem JL(hF:F s.mode=true)(he:(f s).2=0)(h1:sg=false):oV F sg f S (i+1) (c++(f s).1):=by
 have h2:=h.2;rw[rD hs,mo,if_neg (by rw[hF];simp),if_neg oz,if_neg (by rw[h1];simp)]at h2;exact⟨(List.getElem?_eq_some_iff.1 hs).1,by rw[h2,append_assoc]⟩
end
theorem Qu{F:Int->Bool}{sg:Bool}{f:Sv->List Aq×Nat}{S:List Sv}{c:List Aq}(h:oV F sg f S S.length c):ez F sg f S=(c,0):=by
 have h2:=h.2;rw[List.drop_length]at h2;rw[h2];simp[ez]
theorem LA{l:Li}{xs:List Tn}{G:List Gr}{fo:FuncId}{caps:List AV}{sg:Bool}{o:List Aq}{a:Aq}{g:Gr}(hg:G[a.ms.length]?=some g)(hG:G.length<=100)(hx:xs.length<=100)(hd:g.kind=0->0<=g.driver/\g.driver<xs.length)
  {S:List Sv} {E:Nat} (hS:FP 18 [l.av,i64 a.ms.length,(bV g xs).av,a.av] (.tup [.lst 3 (S.map Sv.av),br E])) (hSl:S.length<=100)
  {F:Int->Bool} (hF:∀m,FP fo ([i64 a.ms.length,i64 m]++caps) (bl (F m)))
  (hb:∀s∈S,FP 201 [a.av,g.av,s.av] (a.nxt g s).av)
  {f:Sv->List Aq×Nat} {M B:Nat} (hM:∀s∈S,(f s).1.length<=M) (hB:o.length+S.length*M<=B) (ih:∀(o:List Aq),o.length+M<=B->∀s∈S,Con prog 100 [.ptr 1000 0,(a.nxt g s).av] (eZ l xs G fo caps sg 1001 (o.map Aq.av)) (br (f s).2) (eZ l xs G fo caps sg 900 ((o++(f s).1).map Aq.av))) :
  Con prog 100 [.ptr 1000 0,a.av] (eZ l xs G fo caps sg 1001 (o.map Aq.av)) (br (if E≠0 then E else(ez F sg f S).2)) (eZ l xs G fo caps sg 900 ((o++(if E≠0 then[]else(ez F sg f S).1)).map Aq.av)):=by
 have hkG:=(List.getElem?_eq_some_iff.1 hg).1;refine gF func100 (fun k z h=>vl oz h) ?_;refine gl ?_;refine gl ?_;refine gC (fun t21=>?_) (fun t21=>?_) (st1:=(3,0));exact absurd t21 (by simp[aa];omega);refine gi (aA hg) ?_;refine gt (Au (U7 hd hx) (bC rfl rfl) rfl rfl rfl rfl rfl) ?_;refine gc hS ?_;refine gD ?_;refine gC (fun t54=>?_) (fun t54=>?_) (st1:=(8,0)) (st2:=(77777,0))
 ·have hE:=df t54;refine gW (Wk.o (sl:=[(4,some (.v .nilIface)),(8,some (br E))]) (hp:=[(1000,some (.box (ft l xs G fo caps sg (.ms 1001 3 0 (o.map Aq.av).length)))),(1001,some (.row 3 (o.map Aq.av)))])) ?_ (8,0);refine gW (Wk.rk (k:=1001) (d:=900) rfl rfl) ?_;refine gR ?_;rw[if_pos hE,if_pos hE,append_nil];exact ay.keep (lL rfl rfl)
 have hE:=cZ t54;refine gW (Wk.of (sl:=[(0,some (.ptr 1000 0)),(3,some (.ptr 3 0)),(5,some (i64 a.ms.length)),(6,some (.ptr 6 0)),(7,some (.lst 3 (S.map Sv.av)))]) (hp:=[(3,some (.box a.cs)),(6,some (.box g.av.cells)),(1000,some (.box (ft l xs G fo caps sg (.ms 1001 3 0 ((o++[]).map Aq.av).length)))),(1001,some (.row 3 ((o++[]).map Aq.av)))]) a7 (.k (.k (.cons rfl (BlkSub.bL (.cons (.refl _) (.cons (.refl _) (.cons (.refl _) (.cons (.refl _) (.cons (.refl _) (.cons (.refl _) (.cons (.refl _) (.cons (.refl _) (.cons (Sub.of (by simp)) .nil))))))))) rfl) (.cons rfl (BlkSub.of (by rw[append_nil])) .nil))))) ?_ (77777,0)
 refine gW (Wk.rk (k:=1001) (d:=901) rfl rfl) ?_;refine gl ?_;refine gk [0,3,5,6,56,57] [3,6] (fun(i:Nat)(c:List Aq)=>[(58,some (i64 i))]) (fun _ c=>[(1000,some (.box (ft l xs G fo caps sg (.ms 901 3 0 ((o++c).map Aq.av).length)))),(901,some (.row 3 ((o++c).map Aq.av)))]) (fun i c=>oV F sg f S i c/\c.length<=i*M) (fun i _=>S.length-i) 0 ([]) ⟨Mc F sg f S,zero_le _⟩ ?_;rintro i c ⟨hfo,hcl⟩ K1 J1;refine gC (fun t59=>?_) (fun t59=>?_) (st2:=(19,0))
 ·have hin:=a5 t59;obtain⟨s,hs⟩:=aw hin;have hsm:=mem_of_getElem? hs;have hfl:=hM s hsm;have hmul:(i+1)*M=i*M+M:=Nat.succ_mul i M;have hmul2:(i+1)*M<=S.length*M:=mul_le_mul_right M hin;refine gi (aA hs) ?_;refine gc (hF s.mode) ?_;refine gD ?_;refine gC (fun t70=>?_) (fun t70=>?_) (st2:=(77777,0))
  ·have hFm : F s.mode = false := by simpa using t70
   refine ga aN ?_;exact fQ J1 (i+1) c ⟨UZ hfo hs hFm,by omega⟩
  have hFm:F s.mode=true:=by simpa using t70
  refine gW (Wk.o (sl:=[(0,some (.ptr 1000 0)),(3,some (.ptr 3 0)),(5,some (i64 a.ms.length)),(6,some (.ptr 6 0)),(10,some (.ptr 10 0)),(56,some (.lst 3 (S.map Sv.av))),(57,some (i64 S.length)),(58,some (i64 i))]) (hp:=[(3,some (.box a.cs)),(6,some (.box g.av.cells)),(10,some (.box s.av.cells)),(1000,some (.box (ft l xs G fo caps sg (.ms 901 3 0 ((o++c).map Aq.av).length)))),(901,some (.row 3 ((o++c).map Aq.av)))])) ?_
  refine gc (hb s hsm) ?_;refine gt (aG (Lx (ih (o++c) (by rw[length_append];omega) s hsm)) (bC rfl rfl) aH rfl rfl) ?_;refine gC (fun t78=>?_) (fun t78=>?_)
  ·have he:(f s).2≠0:=df t78;have hR:=KL hfo hs hFm he;refine gR ?_;rw[if_neg oz,if_neg oz,hR,<- append_assoc];exact ay.keep (lL rfl rfl)
  have he:(f s).2=0:=cZ t78;refine gC (fun t83=>?_) (fun t83=>?_) (st2:=(77777,0))
  ·have h1 : sg = true := by simpa using t83
   have hR:=SD hfo hs hFm he h1;refine gR ?_;rw[if_neg oz,if_neg oz,hR,<- append_assoc];exact ay.keep (lL rfl rfl)
  have h1:sg=false:=by simpa using t83
  refine gW (Wk.of (sl:=[(0,some (.ptr 1000 0)),(3,some (.ptr 3 0)),(5,some (i64 a.ms.length)),(6,some (.ptr 6 0)),(56,some (.lst 3 (S.map Sv.av))),(57,some (i64 S.length)),(58,some (i64 i))]) (hp:=[(3,some (.box a.cs)),(6,some (.box g.av.cells)),(1000,some (.box (ft l xs G fo caps sg (.ms 900 3 0 ((o++(c++(f s).1)).map Aq.av).length)))),(900,some (.row 3 ((o++(c++(f s).1)).map Aq.av)))]) a7 (.k (.k (.cons rfl (BlkSub.bL (.cons (.refl _) (.cons (.refl _) (.cons (.refl _) (.cons (.refl _) (.cons (.refl _) (.cons (.refl _) (.cons (.refl _) (.cons (.refl _) (.cons (Sub.of (by rw[append_assoc])) .nil))))))))) rfl) (.cons rfl (BlkSub.of (by rw[append_assoc])) .nil))))) ?_ (77777,0)
  refine gW (Wk.rk (k:=900) (d:=901) rfl rfl) ?_;refine ga aN ?_;exact fQ J1 (i+1) (c++(f s).1) ⟨JL hfo hs hFm he h1,by rw[length_append];omega⟩
 have hin:=bh hfo.1 t59;subst hin;have hR:=Qu hfo;refine gW (Wk.o (sl:=[]) (hp:=[(1000,some (.box (ft l xs G fo caps sg (.ms 901 3 0 ((o++c).map Aq.av).length)))),(901,some (.row 3 ((o++c).map Aq.av)))])) ?_ (19,0);refine gW (Wk.rk (k:=901) (d:=900) rfl rfl) ?_;refine gR ?_;rw[if_neg oz,if_neg oz,hR];exact ay.keep (lL rfl rfl)
variable{P:Program}{N:Nat}{R:Array Oper}{s:AS}{pos:String}{after:Array Edge}
end Go.Lw
namespace Go.Lw
open Go.Proofs
theorem qR(i:Int)(n:Nat):FP 227 [i64 i,i64 n] (bl (bA i n)):=by
 refine aj func227 ?_;refine af ?_;exact congrArg bl (EU i n)
theorem MT(p q:Mk)(hp:p.ok)(hq:q.ok):FP 228 [p.av,q.av] (bl (decide (p.x.q=q.x.q/\p.y.q=q.y.q))):=by
 refine aj func228 ?_;refine gc (EP p.x q.x hp.x hq.x ((hp.qx.sub hq.qx).qs oz)) ?_;refine bR (fun _=>(EP p.y q.y hp.y hq.y ((hp.qy.sub hq.qy).qs oz))) ?_;refine af ?_;exact congrArg bl UY
theorem LB(b:Bd)(hbo:b.ok):FP 226 [b.av] (i64 (if 8<b.pts.length then 4 else e8 b.pts.length (d9 b.pts):Nat)):=by
 have hll:=hbo.ll;refine aj func226 ?_;refine gl ?_;refine gC (fun t9=>?_) (fun t9=>?_)
 ·have h0:8<b.pts.length:=jd t9;refine af ?_;rw[if_pos h0];rfl
 have h0:b.pts.length<=8:=gI t9;have e0:(if 8<b.pts.length then 4 else e8 b.pts.length (d9 b.pts):Nat)=e8 b.pts.length (d9 b.pts):=if_neg oz;refine aU [1] [1] (fun(p:Nat)=>[(3,some (i64 p))]) (fun _=>[]) (fun p=>p<=b.pts.length/\∀j,j<p->d9 b.pts j=0) (fun p=>b.pts.length-p) 0 ⟨zero_le _,fun j h=>by omega⟩ ?_;rintro p ⟨hp,hpj⟩ K1 J1;refine gl ?_;refine gC (fun t14=>?_) (fun t14=>?_)
 ·have hpn:=a5 t14;obtain⟨m,hm⟩:=aw hpn;have hmd:b.pts.getD p default=m:=ao hm;have hmm:=mem_of_getElem? hm;have hmdup:=mU Mk.name hm;have hmo:=hbo.pts m hmm;refine gi (aA hm) ?_;refine gc (q8 m.name (hbo.names m hmm)) ?_;refine gC (fun t25=>?_) (fun t25=>?_)
  ·have h4:=db t25;have e2:d9 b.pts p = 5:=by unfold d9; rw [hmd,if_pos h4]
   refine af ?_;rw[e0,ek hpn hpj (by rw[e2];decide),e2];rfl
  have h4:=da t25;refine aU [1,3,4] [1,4] (fun(q:Nat)=>[(5,some (i64 q))]) (fun _=>[]) (fun q=>q<=p/\(b.pts.take q).any (fun y=>dL y.name m.name)=false) (fun q=>p-q) 0 ⟨zero_le _,rfl⟩ ?_;rintro q ⟨hq,hqd⟩ K2 J2;refine gC (fun t28=>?_) (fun t28=>?_)
  ·have hqn:=a5 t28;obtain⟨y,hy⟩:∃y,b.pts[q]?=some y:=aw oz;refine gi (aA hy) ?_;refine gD ?_;refine gC (fun t39=>?_) (fun t39=>?_)
   ·have h5:dL y.name m.name = true:=t39;have e2:d9 b.pts p = 6:=by unfold d9; rw [hmd,if_neg (by rw [h4]; decide),if_pos (by rw [hmdup]; exact k9 hy hqn h5)]
    refine af ?_;rw[e0,ek hpn hpj (by rw[e2];decide),e2];rfl
   have h5:dL y.name m.name=false:=t39;refine ga aN ?_;exact aP J2 (q+1) ⟨hqn,kc hy hqd h5⟩
  have hqn:=bh hq t28;subst hqn;have hmnd:¬gw (b.pts.map Mk.name) q=true:=by rw[hmdup,hqd];decide
  refine gc (yP m.x hmo.x) ?_;refine bR (fun _=>(yP m.y hmo.y)) ?_;refine gC (fun t49=>?_) (fun t49=>?_)
  ·have h6:=ol t49;have e2:d9 b.pts q = 3:=by unfold d9; rw [hmd,if_neg (by rw [h4]; decide),if_neg hmnd,if_neg (by rintro ⟨g1,g2⟩; rcases h6 with g | g; (rw [g1] at g; cases g); (rw [g2] at g; cases g))]
   refine af ?_;rw[e0,ek hpn hpj (by rw[e2];decide),e2];rfl
  have h6:=oN t49;have e2:d9 b.pts q=0:=by unfold d9;rw[hmd,if_neg (by rw[h4];decide),if_neg hmnd,if_pos h6]
  refine ga aN ?_;exact aP J1 (q+1) ⟨hpn,fun j h9=>by rcases lt_or_ge j q with g |g;exact hpj j g;(have:j=q:=by omega);subst this;exact e2⟩
 have hpn:=bh hp t14;subst hpn;refine af ?_;rw[e0,mR hpj];rfl
theorem PN(l:Li)(hl:l.ok):FP 112 [l.av] (i64 (gN l)):=by
 have hlb:=hl.lb;have e0:gN l=e8 l.bo.length (d7 l.bo):=rfl;refine aj func112 ?_;refine aU [1] [1] (fun(i:Nat)=>[(3,some (i64 i))]) (fun _=>[]) (fun i=>i<=l.bo.length/\∀j,j<i->d7 l.bo j=0) (fun i=>l.bo.length-i) 0 ⟨zero_le _,fun j h=>by omega⟩ ?_;rintro i ⟨hi,hj⟩ K1 J1;refine gl ?_;refine gC (fun t10=>?_) (fun t10=>?_)
 ·have hin:=a5 t10;obtain⟨b,hb⟩:=aw hin;have hbd:l.bo.getD i default=b:=ao hb;have hbo:=hl.bo b (mem_of_getElem? hb);have hbdup:=mU Bd.name hb;refine gi (aA hb) ?_;refine gc (q8 b.name hbo.name) ?_;refine gC (fun t20=>?_) (fun t20=>?_)
  ·have h1:=db t20;have e1:d7 l.bo i = 5:=by unfold d7; rw [hbd,if_pos h1]
   refine af ?_;rw[e0,ek hin hj (by rw[e1];decide),e1];rfl
  have h1:=da t20;refine aU [1,3] [1] (fun(k:Nat)=>[(4,some (i64 k))]) (fun _=>[]) (fun k=>k<=i/\(l.bo.take k).any (fun y=>dL y.name b.name)=false) (fun k=>i-k) 0 ⟨zero_le _,rfl⟩ ?_;rintro k ⟨hk,hd⟩ K2 J2;refine gC (fun t23=>?_) (fun t23=>?_)
  ·have hkn:=a5 t23;obtain⟨y,hy⟩:∃y,l.bo[k]?=some y:=aw oz;refine gi (aA hy) ?_;refine gi (aA hb) ?_;refine gD ?_;refine gC (fun t38=>?_) (fun t38=>?_)
   ·have h2:dL y.name b.name = true:=t38;have e1:d7 l.bo i = 6:=by unfold d7; rw [hbd,if_neg (by rw [h1]; decide),if_pos (by rw [hbdup]; exact k9 hy hkn h2)]
    refine af ?_;rw[e0,ek hin hj (by rw[e1];decide),e1];rfl
   have h2:dL y.name b.name=false:=t38;refine ga aN ?_;exact aP J2 (k+1) ⟨hkn,kc hy hd h2⟩
  have hkn:=bh hk t23;subst hkn;have hnd:¬gw (l.bo.map Bd.name) k=true:=by rw[hbdup,hd];decide
  have e1:d7 l.bo k=if 8<b.pts.length then 4 else e8 b.pts.length (d9 b.pts):=by unfold d7;rw[hbd,if_neg (by rw[h1];decide),if_neg hnd]
  refine gi (aA hb) ?_;refine gc (LB b hbo) ?_;refine gC (fun t46=>?_) (fun t46=>?_)
  ·have h3:=rW t46;refine af ?_;rw[e0,ek hin hj (by rw[e1];exact h3),e1]
  have h3:=o6 t46;refine ga aN ?_;exact aP J1 (k+1) ⟨hin,fun j h9=>by rcases lt_or_ge j k with g |g;exact hj j g;(have:j=k:=by omega);subst this;exact e1.trans h3⟩
 have hin:=bh hi t10;subst hin;refine af ?_;rw[e0,mR hj];rfl
theorem MB(l:Li)(hl:l.ok)(i:Nat)(hi:i<l.jo.length)(h16:l.jo.length<=16):FP 113 [l.av,i64 i] (i64 (fO l i)):=by
 obtain⟨j,hjj⟩:=aw hi;have hbd:l.jo.getD i default=j:=ao hjj;have hbdup:=mU Jt.name hjj;refine aj func113 ?_;refine gi (aA hjj) ?_;refine gc (q8 j.name (hl.jnames j (mem_of_getElem? hjj))) ?_;refine gC (fun t17=>?_) (fun t17=>?_)
 ·have h0:=db t17;refine af ?_;unfold fO;rw[hbd,if_pos h0];rfl
 have h0:=da t17;refine aU [1,2,5] [2,5] (fun(k:Nat)=>[(6,some (i64 k))]) (fun _=>[]) (fun k=>k<=i/\(l.jo.take k).any (fun y=>dL y.name j.name)=false) (fun k=>i-k) 0 ⟨zero_le _,rfl⟩ ?_;rintro k ⟨hk,hd⟩ K1 J1;refine gC (fun t20=>?_) (fun t20=>?_)
 ·have hkn:=a5 t20;obtain⟨y,hy⟩:∃y,l.jo[k]?=some y:=aw oz;refine gi (aA hy) ?_;refine gD ?_;refine gC (fun t31=>?_) (fun t31=>?_)
  ·have h2:dL y.name j.name=true:=t31;refine af ?_;unfold fO;rw[hbd,if_neg (by rw[h0];decide),if_pos (by rw[hbdup];exact k9 hy hkn h2)];rfl
  have h2:dL y.name j.name=false:=t31;refine ga aN ?_;exact aP J1 (k+1) ⟨hkn,kc hy hd h2⟩
 have hkn:=bh hk t20;subst hkn;have hnd:¬gw (l.jo.map Jt.name) k=true:=by rw[hbdup,hd];decide
 have e1:fO l k=ep l j:=by unfold fO;rw[hbd,if_neg (by rw[h0];decide),if_neg hnd]
 refine gC (fun t39=>?_) (fun t39=>?_)
 ·have h1:=B7 t39;refine af ?_;rw[e1];unfold ep;rw[if_pos h1];rfl
 have h1:=Hl t39;refine gl ?_;refine gc (qR j.a l.bo.length) ?_;refine bZ ?_;refine bR (fun _=>(qR j.b l.bo.length)) ?_;refine gC (fun t55=>?_) (fun t55=>?_)
 ·have h2:=ol t55;refine af ?_;rw[e1];unfold ep;rw[if_neg h1,if_pos h2];rfl
 have h2:=oN t55;have h2n:¬(bA j.a l.bo.length=false\/bA j.b l.bo.length=false):=by rw[h2.1,h2.2];simp
 obtain⟨A,hA,pA,mA,zA0⟩:=pz h2.1;obtain⟨B,hB,pB,mB,zB0⟩:=pz h2.2;refine gC (fun t60=>?_) (fun t60=>?_)
 ·have h3:=cP t60;refine af ?_;rw[e1];unfold ep;rw[if_neg h1,if_neg h2n,if_pos h3];rfl
 have h3:=dA t60;refine gi (aA hA) ?_;refine gi (aA hB) ?_;refine gD ?_;refine gl ?_;refine gc (qR j.point A.pts.length) ?_;refine bZ ?_;refine bR (fun _=>(qR j.on B.pts.length)) ?_;refine gC (fun t88=>?_) (fun t88=>?_)
 ·have h4:=ol t88;refine af ?_;rw[e1];unfold ep;rw[if_neg h1,if_neg h2n,if_neg h3,pA,pB,if_pos h4];rfl
 have h4:=oN t88;have h4n:¬(bA j.point A.pts.length=false\/bA j.on B.pts.length=false):=by rw[h4.1,h4.2];simp
 refine gC (fun t91=>?_) (fun t91=>?_)
 ·have h5:=cP t91;refine gC (fun t94=>?_) (fun t94=>?_)
  ·have h6:=nJ t94;refine af ?_;rw[e1];unfold ep;rw[if_neg h1,if_neg h2n,if_neg h3,pA,pB,if_neg h4n,if_pos h5,if_pos h6];rfl
  have h6:=uD t94;refine af ?_;rw[e1];unfold ep;rw[if_neg h1,if_neg h2n,if_neg h3,pA,pB,if_neg h4n,if_pos h5,if_neg (by rw[h6];simp)];rfl
 have h5:=dA t91;refine gl ?_;refine gc (qR j.to B.pts.length) ?_;refine gC (fun t100=>?_) (fun t100=>?_)
 ·have h6:=db t100;refine af ?_;rw[e1];unfold ep;rw[if_neg h1,if_neg h2n,if_neg h3,pA,pB,if_neg h4n,if_neg h5,if_pos h6];rfl
 have h6:=da t100;obtain⟨m1,g1,d1,mm1,z1⟩:=sD h4.2;obtain⟨m2,g2,d2,mm2,z2⟩:=sD h6;have mo1:=(hl.bo B mB).pts m1 mm1;have mo2:=(hl.bo B mB).pts m2 mm2;refine gi (aA g1) ?_;refine gi (aA g2) ?_;refine gc (MT m1 m2 mo1 mo2) ?_;refine gD ?_;refine gC (fun t111=>?_) (fun t111=>?_)
 ·have h7:=of_decide_eq_true t111;refine af ?_;rw[e1];unfold ep;rw[if_neg h1,if_neg h2n,if_neg h3,pA,pB,if_neg h4n,if_neg h5,if_neg (by rw[h6];decide),d1,d2,if_pos h7];rfl
 have h7:=of_decide_eq_false t111;refine af ?_;rw[e1];unfold ep;rw[if_neg h1,if_neg h2n,if_neg h3,pA,pB,if_neg h4n,if_neg h5,if_neg (by rw[h6];decide),d1,d2,if_neg h7];rfl
theorem TV(l:Li)(hl:l.ok)(i:Nat)(hi:i<l.dv.length)(h2l:l.dv.length<=2):FP 114 [l.av,i64 i] (i64 (dY l i)):=by
 obtain⟨b,hb⟩:=aw hi;have hbd:l.dv.getD i default=b:=ao hb;have hbdup:=mU Dr.name hb;refine aj func114 ?_;refine gi (aA hb) ?_;refine gc (q8 b.name (hl.dnames b (mem_of_getElem? hb))) ?_;refine gC (fun t16=>?_) (fun t16=>?_)
 ·have h1:=db t16;refine af ?_;unfold dY;rw[hbd,if_pos h1];rfl
 have h1:=da t16;refine aU [1,2,5] [2,5] (fun(k:Nat)=>[(6,some (i64 k))]) (fun _=>[]) (fun k=>k<=i/\(l.dv.take k).any (fun y=>dL y.name b.name)=false) (fun k=>i-k) 0 ⟨zero_le _,rfl⟩ ?_;rintro k ⟨hk,hd⟩ K1 J1;refine gC (fun t19=>?_) (fun t19=>?_)
 ·have hkn:=a5 t19;obtain⟨y,hy⟩:∃y,l.dv[k]?=some y:=aw oz;refine gi (aA hy) ?_;refine gD ?_;refine gC (fun t30=>?_) (fun t30=>?_)
  ·have h2:dL y.name b.name=true:=t30;refine af ?_;unfold dY;rw[hbd,if_neg (by rw[h1];decide),if_pos (by rw[hbdup];exact k9 hy hkn h2)];rfl
  have h2:dL y.name b.name=false:=t30;refine ga aN ?_;exact aP J1 (k+1) ⟨hkn,kc hy hd h2⟩
 have hkn:=bh hk t19;subst hkn;have hnd:¬gw (l.dv.map Dr.name) k=true:=by rw[hbdup,hd];decide
 refine gl ?_;refine gc (qR b.body l.bo.length) ?_;refine gC (fun t37=>?_) (fun t37=>?_)
 ·have h3:=db t37;refine af ?_;unfold dY;rw[hbd,if_neg (by rw[h1];decide),if_neg hnd,if_pos h3];rfl
 have h3:=da t37;refine gC (fun t40=>?_) (fun t40=>?_)
 ·have h4:=cP t40;refine af ?_;unfold dY;rw[hbd,if_neg (by rw[h1];decide),if_neg hnd,if_neg (by rw[h3];decide),if_pos h4];rfl
 have h4:=dA t40;have e1:dY l k=if(l.dv.take k).any (fun d=>decide (d.body=b.body))=true then 6 else 0:=by unfold dY;rw[hbd,if_neg (by rw[h1];decide),if_neg hnd,if_neg (by rw[h3];decide),if_neg h4]
 refine aU [1,2,5] [2,5] (fun(q:Nat)=>[(7,some (i64 q))]) (fun _=>[]) (fun q=>q<=k/\(l.dv.take q).any (fun d=>decide (d.body=b.body))=false) (fun q=>k-q) 0 ⟨zero_le _,rfl⟩ ?_;rintro q ⟨hq,hqd⟩ K2 J2;refine gC (fun t43=>?_) (fun t43=>?_)
 ·have hqn:=a5 t43;obtain⟨y,hy⟩:∃y,l.dv[q]?=some y:=aw oz;refine gi (aA hy) ?_;refine gD ?_;refine gC (fun t54=>?_) (fun t54=>?_)
  ·have h5:decide (y.body=b.body)=true:=decide_eq_true (cP t54);refine af ?_;rw[e1,if_pos (k9 hy hqn h5)];rfl
  have h5:decide (y.body=b.body)=false:=decide_eq_false (dA t54);refine ga aN ?_;exact aP J2 (q+1) ⟨hqn,kc hy hqd h5⟩
 have hqn:=bh hq t43;subst hqn;refine af ?_;rw[e1,hqd];rfl
theorem HP(l:Li)(hl:l.ok):FP 40 [l.av] (i64 (aD l)):=by
 have hlb:=hl.lb;refine aj func40 ?_;refine gc (q8 l.name hl.name) ?_;refine gC (fun t11=>?_) (fun t11=>?_)
 ·have h1:=db t11;refine af ?_;unfold aD;rw[if_pos h1];rfl
 have h1:=da t11;refine gl ?_;refine gC (fun t15=>?_) (fun t15=>?_)
 ·have h2:=DX t15;refine af ?_;unfold aD;rw[if_neg (by rw[h1];decide),if_pos h2];rfl
 have h2:=Iz t15;refine gl ?_;refine gC (fun t19=>?_) (fun t19=>?_)
 ·have h3:8<l.bo.length:=jd t19;refine af ?_;unfold aD;rw[if_neg (by rw[h1];decide),if_neg h2,if_pos h3];rfl
 have h3:l.bo.length<=8:=gI t19;have e0:aD l=if gN l≠0 then gN l else if eF l≠0 then eF l else fV l:=by unfold aD;rw[if_neg (by rw[h1];decide),if_neg h2,if_neg oz]
 refine gc (PN l hl) ?_;refine gC (fun t23=>?_) (fun t23=>?_)
 ·have h4:gN l≠0:=rW t23;refine af ?_;rw[e0,if_pos h4]
 have h4:gN l=0:=o6 t23;refine gl ?_;refine gC (fun t28=>?_) (fun t28=>?_)
 ·have h5:16 < l.jo.length:=jd t28;have ej:eF l = 4:=by unfold eF; rw [if_pos h5]
  refine af ?_;rw[e0,if_neg (by rw[h4];simp),if_pos (by rw[ej];decide),ej];rfl
 have h5:l.jo.length<=16:=gI t28;have ej:eF l=e8 l.jo.length (fO l):=by unfold eF;rw[if_neg oz]
 refine aU [1] [1] (fun(i:Nat)=>[(4,some (i64 i))]) (fun _=>[]) (fun i=>i<=l.jo.length/\∀j,j<i->fO l j=0) (fun i=>l.jo.length-i) 0 ⟨zero_le _,fun j h=>by omega⟩ ?_;rintro i ⟨hi,hj⟩ K1 J1;refine gl ?_;refine gC (fun t33=>?_) (fun t33=>?_)
 ·have hin:=a5 t33;refine gc (MB l hl i hin h5) ?_;refine gC (fun t40=>?_) (fun t40=>?_)
  ·have h6:=rW t40;refine af ?_;rw[e0,if_neg (by rw[h4];simp),if_pos (by rw[ej,ek hin hj h6];exact h6),ej,ek hin hj h6]
  have h6:=o6 t40;refine ga aN ?_;exact aP J1 (i+1) ⟨hin,fun j h9=>by rcases lt_or_ge j i with g |g;exact hj j g;(have:j=i:=by omega);subst this;exact h6⟩
 have hin:=bh hi t33;subst hin;have ejz:eF l=0:=ej.trans (mR hj);have e0':aD l=fV l:=by rw[e0,if_neg (by rw[h4];simp),if_neg (by rw[ejz];simp)]
 refine gl ?_;refine gC (fun t45=>?_) (fun t45=>?_)
 ·have h6:2<l.dv.length:=jd t45;refine af ?_;rw[e0'];unfold fV;rw[if_pos h6];rfl
 have h6:l.dv.length<=2:=gI t45;have ed:fV l=e8 l.dv.length (dY l):=by unfold fV;rw[if_neg oz]
 refine aU [1] [1] (fun(k:Nat)=>[(6,some (i64 k))]) (fun _=>[]) (fun k=>k<=l.dv.length/\∀j,j<k->dY l j=0) (fun k=>l.dv.length-k) 0 ⟨zero_le _,fun j h=>by omega⟩ ?_;rintro k ⟨hk,hkj⟩ K2 J2;refine gl ?_;refine gC (fun t50=>?_) (fun t50=>?_)
 ·have hkn:=a5 t50;refine gc (TV l hl k hkn h6) ?_;refine gC (fun t57=>?_) (fun t57=>?_)
  ·have h7:=rW t57;refine af ?_;rw[e0',ed,ek hkn hkj h7]
  have h7:=o6 t57;refine ga aN ?_;exact aP J2 (k+1) ⟨hkn,fun j h9=>by rcases lt_or_ge j k with g |g;exact hkj j g;(have:j=k:=by omega);subst this;exact h7⟩
 have hkn:=bh hk t50;subst hkn;refine af ?_;rw[e0',ed,mR hkj];rfl
theorem I2(l:Li)(hl:l.okw):FP 56 [l.av] (bl (ib l)):=by
 have hbl:=hl.lb;refine aj func56 ?_;refine gl ?_;refine aU [1,8,9] [1] (fun(i:Nat)=>[(10,some (i64 i))]) (fun _=>[]) (fun i=>i<=l.bo.length/\(l.bo.take i).all nQ=true) (fun i=>l.bo.length-i) 0 ⟨zero_le _,rfl⟩ ?_;rintro i ⟨hi,hj⟩ K1 J1;refine gC (fun t11=>?_) (fun t11=>?_)
 ·have hin:=a5 t11;obtain⟨b,hb⟩:=aw hin;refine gi (aA hb) ?_;refine gl ?_;refine gC (fun t17=>?_) (fun t17=>?_)
  ·have h1:30<b.pts.length:=jd t17;refine af ?_;unfold ib;rw[lE hb (by unfold nQ;rw[decide_eq_false oz];rfl)];rfl
  have h1:b.pts.length<=30:=gI t17;refine gl ?_;refine aU [1,8,9,10,19,20] [1] (fun(k:Nat)=>[(21,some (i64 k))]) (fun _=>[]) (fun k=>k<=b.pts.length/\(b.pts.take k).all lI=true) (fun k=>b.pts.length-k) 0 ⟨zero_le _,rfl⟩ ?_;rintro k ⟨hk,hkj⟩ K2 J2;refine gC (fun t22=>?_) (fun t22=>?_)
  ·have hkn:=a5 t22;obtain⟨p,hp⟩:=aw hkn;refine gi (aA hp) ?_;refine gl ?_;refine bZ ?_;refine bZ ?_;refine bZ ?_;refine gC (fun t50=>?_) (fun t50=>?_)
   ·have h2:lI p=false:=I8 t50;refine af ?_;unfold ib;rw[lE hb (by unfold nQ;rw[lE hp h2,Bool.and_false])];rfl
   have h2:lI p=true:=Uu t50;refine ga aN ?_;exact aP J2 (k+1) ⟨hkn,lU hkj hp h2⟩
  have hkn:=bh hk t22;refine ga aN ?_;exact aP J1 (i+1) ⟨hin,lU hj hb (by unfold nQ;rw[decide_eq_true h1,l6 hkn hkj];rfl)⟩
 have hin:=bh hi t11;refine gl ?_;refine bZ ?_;refine bZ ?_;refine af ?_;exact congrArg bl (JD (l6 hin hj))
def kQ(r:Rt):Bool:=!(cond (cond (cond (aa .gtr (r.num.length:Int) 1) true (aa .gtr (r.den.length:Int) 1)) true (cond (aa .eql (r.num.length:Int) 1) (aa .gtr (ai r.num 0:Int) 400) false)) true
  (cond (aa .eql (r.den.length:Int) 1) (aa .gtr (ai r.den 0:Int) 20) false))
theorem Cl(rs:List Rt)(hl:rs.length<=1000):FP 197 [.lst 3 (rs.map Rt.av)] (bl (rs.all kQ)):=by
 refine aj func197 ?_;refine gl ?_;refine aU [5,6] [] (fun(i:Nat)=>[(7,some (i64 i))]) (fun _=>[]) (fun i=>i<=rs.length/\(rs.take i).all kQ=true) (fun i=>rs.length-i) 0 ⟨zero_le _,rfl⟩ ?_;rintro i ⟨hi,hj⟩ K1 J1;refine gC (fun t8=>?_) (fun t8=>?_)
 ·have hin:=a5 t8;obtain ⟨r,hr⟩:=aw hin;refine gi (aA hr) ?_;refine gl ?_;refine bZ ?_;refine bZ ?_;refine lS (fun ⟨h,h2⟩=>(cm (by have:=cP h2; have e:Int.toNat 0 = 0:=rfl; omega))) ?_;refine bZ ?_;refine lS (fun ⟨h,h2⟩=>(cm (by have:=cP h2; have e:Int.toNat 0 = 0:=rfl; omega))) ?_;refine gC (fun t46=>?_) (fun t46=>?_)
  ·have h1:kQ r=false:=congrArg Bool.not t46;refine af ?_;rw[lE hr h1];rfl
  have h1:kQ r=true:=congrArg Bool.not t46;refine ga aN ?_;exact aP J1 (i+1) ⟨hin,lU hj hr h1⟩
 have hin:=bh hi t8;refine af ?_;rw[l6 hin hj];rfl
def mh(x:Tn):Bool:=decide (x.t.num.length<=1/\x.t.den.length<=1)
def lc(m:Mk):Bool:=decide (m.x.num.length<=1/\m.x.den.length<=1/\m.y.num.length<=1/\m.y.den.length<=1)
def p7(xs:List Tn):Bool:=xs.all (fun x=>[x.t].all kQ)
def tk(ps:List Mk):Bool:=ps.all (fun p=>[p.x,p.y].all kQ)
def p5(l:Li):Bool:=l.bo.all (fun b=>tk b.pts)
theorem Pw(l:Li)(hl:l.ok)(xs:List Tn)(hxl:xs.length<=281474976710656):FP 98 [l.av,.lst 4 (xs.map Tn.av)] (bl (p7 xs&&p5 l)):=by
 have hlb:=hl.lb;refine aj func98 ?_;refine gl ?_;refine aU [2,11,12] [2] (fun(i:Nat)=>[(13,some (i64 i))]) (fun _=>[]) (fun i=>i<=xs.length/\(xs.take i).all (fun x=>[x.t].all kQ)=true) (fun i=>xs.length-i) 0 ⟨zero_le _,rfl⟩ ?_;rintro i ⟨hi,hj⟩ K1 J1;refine gC (fun t14=>?_) (fun t14=>?_)
 ·have hin:=a5 t14;obtain ⟨x,hx⟩:=aw hin;refine gi (aA hx) ?_;refine gc (Cl [x.t] (by show 1 <= _; omega)) ?_;refine gC (fun t21=>?_) (fun t21=>?_)
  ·have h1:=db t21;refine af ?_;unfold p7;rw[lE hx h1];rfl
  have h1:=da t21;refine ga aN ?_;exact aP J1 (i+1) ⟨hin,lU hj hx h1⟩
 have hT:p7 xs=true:=l6 (bh hi t14) hj;refine gl ?_;refine aU [2,24,25] [2] (fun(i:Nat)=>[(26,some (i64 i))]) (fun _=>[]) (fun i=>i<=l.bo.length/\(l.bo.take i).all (fun b=>tk b.pts)=true) (fun i=>l.bo.length-i) 0 ⟨zero_le _,rfl⟩ ?_;rintro i ⟨hi2,hj2⟩ K2 J2;refine gC (fun t27=>?_) (fun t27=>?_)
 ·have hin:=a5 t27;obtain⟨b,hb⟩:=aw hin;have hbl:=(hl.bo b (mem_of_getElem? hb)).ll;refine gi (aA hb) ?_;refine gl ?_;refine aU [2,24,25,26,31,32] [2] (fun(k:Nat)=>[(33,some (i64 k))]) (fun _=>[]) (fun k=>k<=b.pts.length/\(b.pts.take k).all (fun p=>[p.x,p.y].all kQ)=true) (fun k=>b.pts.length-k) 0 ⟨zero_le _,rfl⟩ ?_;rintro k ⟨hk,hkj⟩ K3 J3;refine gC (fun t34=>?_) (fun t34=>?_)
  ·have hkn:=a5 t34;obtain ⟨p,hp⟩:=aw hkn;refine gi (aA hp) ?_;refine gc (Cl [p.x,p.y] (by show 2 <= _; omega)) ?_;refine gC (fun t43=>?_) (fun t43=>?_)
   ·have h1:=db t43;refine af ?_;rw[hT];unfold p5;rw[lE hb (by unfold tk;exact lE hp h1)];rfl
   have h1:=da t43;refine ga aN ?_;exact aP J3 (k+1) ⟨hkn,lU hkj hp h1⟩
  have hP:tk b.pts=true:=l6 (bh hk t34) hkj;refine ga aN ?_;exact aP J2 (i+1) ⟨hin,lU hj2 hb hP⟩
 have hL:p5 l=true:=l6 (bh hi2 t27) hj2;refine af ?_;rw[hT,hL];rfl
def Br(l:Li)(xs:List Tn):Bool :=
  cond (cond (aa .neq (splitE l:Int) 0) true (aa .leq (((splitG l).length:Int)-l.dv.length) 1)) true (cond (aa .eql (((splitG l).length:Int)-l.dv.length) 2) (p7 xs&&p5 l) false)
def iO(l:Li)(xs:List Tn):Bool :=
  (ib l&&decide (xs.length<=20))&&(xs.all mh&&(l.bo.all (fun b=>b.pts.all lc)&&(if aD l=0 then Br l xs else true)))
theorem L6{l:Li}{n:Nat}(h:cond (!ib l) true (aa .gtr (n:Int) 20)=true):(ib l&&decide (n<=20))=false:=by
 cases hb:ib l
 ·rfl
 ·rw[hb]at h;have h1:20<n:=jd (b:=20) h;rw[decide_eq_false oz];rfl
theorem QO{l:Li}{n:Nat}(h:cond (!ib l) true (aa .gtr (n:Int) 20)=false):ib l=true/\n<=20:=by
 cases hb:ib l
 ·rw[hb]at h;cases h
 ·rw[hb]at h;exact⟨rfl,gI (b:=20) h⟩
theorem EI{x:Tn}:cond (aa .gtr (x.t.num.length:Int) 1) true (aa .gtr (x.t.den.length:Int) 1)=!mh x:=by
 unfold mh;have e1:=kP (n:=x.t.num.length) (k:=1);have e2:=kP (n:=x.t.den.length) (k:=1);rw[iS];refine(congr (congrArg _ e1) e2).trans ?_;rw[<- Bool.decide_or,<- decide_not];exact decide_eq_decide.2 oz
theorem Gc{m:Mk}:cond (cond (cond (aa .gtr (m.x.num.length:Int) 1) true (aa .gtr (m.x.den.length:Int) 1)) true (aa .gtr (m.y.num.length:Int) 1)) true (aa .gtr (m.y.den.length:Int) 1)=!lc m:=by
 unfold lc;have e1:=kP (n:=m.x.num.length) (k:=1);have e2:=kP (n:=m.x.den.length) (k:=1);have e3:=kP (n:=m.y.num.length) (k:=1);have e4:=kP (n:=m.y.den.length) (k:=1);rw[iS,iS,iS];refine(congr (congrArg _ (congr (congrArg _ (congr (congrArg _ e1) e2)) e3)) e4).trans ?_;rw[<- Bool.decide_or,<- Bool.decide_or,<- Bool.decide_or,<- decide_not];exact decide_eq_decide.2 oz
theorem sM{l:Li}(hl:aD l=0):(splitG l).length<=8:=by
 unfold splitG;split
 ·exact(tB hl).2
 ·exact zero_le _
theorem Pt(l:Li)(hw:l.okw)(xs:List Tn)(hxl:xs.length<=281474976710656):FP 32 [l.av,.lst 4 (xs.map Tn.av)] (bl (iO l xs)):=by
 refine aj func32 ?_;refine gc (I2 l hw) ?_;refine bZ ?_;refine gC (fun t21=>?_) (fun t21=>?_)
 ·have h1:=L6 t21;refine af ?_;unfold iO;rw[h1];rfl
 obtain⟨g1,g2⟩:=QO t21;have hl:=vj g1 hw;have hlb:=hl.lb;refine gl ?_;refine aU [1,2,22,23] [2] (fun(i:Nat)=>[(24,some (i64 i))]) (fun _=>[]) (fun i=>i<=xs.length/\(xs.take i).all mh=true) (fun i=>xs.length-i) 0 ⟨zero_le _,rfl⟩ ?_;rintro i ⟨hi,hj⟩ K1 J1;refine gC (fun t25=>?_) (fun t25=>?_)
 ·have hin:=a5 t25;obtain⟨x,hx⟩:=aw hin;refine gi (aA hx) ?_;refine gl ?_;refine bZ ?_;refine gC (fun t39=>?_) (fun t39=>?_)
  ·have h1 : mh x = false := by rw [EI] at t39; exact db t39
   refine af ?_;unfold iO;rw[g1,decide_eq_true g2,lE hx h1];rfl
  have h1:mh x=true:=by rw[EI]at t39;exact da t39
  refine ga aN ?_;exact aP J1 (i+1) ⟨hin,lU hj hx h1⟩
 have hT:xs.all mh=true:=l6 (bh hi t25) hj;refine gl ?_;refine aU [1,2,42,43] [2] (fun(i:Nat)=>[(44,some (i64 i))]) (fun _=>[]) (fun i=>i<=l.bo.length/\(l.bo.take i).all (fun b=>b.pts.all lc)=true) (fun i=>l.bo.length-i) 0 ⟨zero_le _,rfl⟩ ?_;rintro i ⟨hi2,hj2⟩ K2 J2;refine gC (fun t45=>?_) (fun t45=>?_)
 ·have hin:=a5 t45;obtain⟨b,hb⟩:=aw hin;have hbl:=(hl.bo b (mem_of_getElem? hb)).ll;refine gi (aA hb) ?_;refine gl ?_;refine aU [1,2,42,43,44,49,50] [2] (fun(k:Nat)=>[(51,some (i64 k))]) (fun _=>[]) (fun k=>k<=b.pts.length/\(b.pts.take k).all lc=true) (fun k=>b.pts.length-k) 0 ⟨zero_le _,rfl⟩ ?_;rintro k ⟨hk,hkj⟩ K3 J3;refine gC (fun t52=>?_) (fun t52=>?_)
  ·have hkn:=a5 t52;obtain⟨p,hp⟩:=aw hkn;refine gi (aA hp) ?_;refine gl ?_;refine bZ ?_;refine bZ ?_;refine bZ ?_;refine gC (fun t80=>?_) (fun t80=>?_)
   ·have h1 : lc p = false := by rw [Gc] at t80; exact db t80
    refine af ?_;unfold iO;rw[g1,decide_eq_true g2,hT,lE hb (lE hp h1)];rfl
   have h1:lc p=true:=by rw[Gc]at t80;exact da t80
   refine ga aN ?_;exact aP J3 (k+1) ⟨hkn,lU hkj hp h1⟩
  have hP:b.pts.all lc=true:=l6 (bh hk t52) hkj;refine ga aN ?_;exact aP J2 (i+1) ⟨hin,lU hj2 hb hP⟩
 have hL:l.bo.all (fun b=>b.pts.all lc)=true:=l6 (bh hi2 t45) hj2;refine gc (HP l hl) ?_;refine gC (fun t85=>?_) (fun t85=>?_)
 ·have h1:=rW t85;refine af ?_;unfold iO;rw[g1,decide_eq_true g2,hT,hL,if_neg h1];rfl
 have h1:=o6 t85;have hsl:=sM h1;have hld:=hl.ld;refine gc (Ua l hl h1) ?_;refine gl ?_;refine gl ?_;refine ga (d8 oz) ?_;refine bR (fun _=>(Pw l hl xs hxl)) ?_;refine af ?_;unfold iO Br;rw[g1,decide_eq_true g2,hT,hL,if_pos h1];rfl
section
variable{l:Li}{xs:List Tn}{s g:Nat}(W:WkC l xs s g){k:Nat}{gr:Gr}(hg:(splitG l)[k]?=some gr){j r E:Nat}{a:Aq}(Q:QInv l j r E a){n y:Nat}(ok:eU s g (n+1) y j r E=true)(hy:gr.kind≠0->0<y)
include W hg Q ok hy
theorem U0:∃F,F<=20000000000/\vp F l k a.as false/\AB a.as/\(Lw.llq a.as.rs).length<=2/\(gr.kind≠0->F=3900000/\DyS a.as):=by
 obtain⟨⟨hE,hr,hj⟩,_⟩:=rP ok;have h3:(Lw.llq a.as.rs).length<=2:=by rw[a.llq];have:=Q.lv;omega
 have al:=Q.ab W.li (by omega:E<=50000000000) hr
 by_cases hk:gr.kind=0
 ·exact⟨E,hE,Q.sma oz (le_refl _) k false,al,h3,fun h=>absurd hk h⟩
 ·have hy:=hy hk;obtain ⟨y',rfl⟩:∃ y',y = y' + 1:=⟨y - 1,by omega⟩
  obtain⟨⟨hj,hE,hr,hX,hJ⟩,_⟩:=sS ok;exact⟨3900000,by omega,Q.sma oz hE k false,al,h3,fun _=>⟨rfl,QInv.dyS W hg Q hr hj⟩⟩
theorem Kv:vN l k (bV gr xs) a.as=((dt l a.as gr (bV gr xs)).map Sv.av,kK l a.as gr (bV gr xs)):=by
 have _:=ok;have _:=hy;unfold vN;have hgA:iF l (k:Nat)=gr:=ao hg;rw[if_pos (Q.dy0 W.li W.sp hg false),hgA];exact Prod.ext (Us _ _ _ _) rfl
theorem Me:FP 18 [l.av,i64 k,(bV gr xs).av,a.av] (.tup [.lst 3 ((dt l a.as gr (bV gr xs)).map Sv.av),br (kK l a.as gr (bV gr xs))]):=by
 obtain⟨F,hF,hs,al,h3,hR⟩:=U0 W hg Q ok hy;have hgA:iF l (k:Nat)=gr:=ao hg;have h:=VI l W.hl k (W.tn hg).1 (W.tn hg).2.1 a.as al (fun _=>h3) hF hs (fun _ h=>hR (by rw[hgA]at h;exact h));rw[Kv W hg Q ok hy,a.as_av]at h;exact h
theorem Wa:∃y' j' r' E',eU s g n y' j' r' E'=true/\(y'+(if gr.kind≠0 then 1 else 0)=y)/\∀sv∈dt l a.as gr (bV gr xs),QInv l j' r' E' (a.nxt gr sv):=by
 by_cases hk:gr.kind=0
 ·exact⟨y,j,r,_,(rP ok).2,by simp[hk],Q.drv W hg ok hk⟩
 ·have hy:=hy hk;obtain ⟨y',rfl⟩:∃ y',y = y' + 1:=⟨y - 1,by omega⟩
  exact⟨y',j+1,_,_,(sS ok).2,by simp[hk],Q.dy W hg ok hk⟩
end
def kO(g:Gr):Bool:=decide (g.kind≠0)
theorem Fl{F:Int->Bool}{sg:Bool}{f:Sv->List Aq×Nat}{M:Nat}:∀{S:List Sv},(∀s∈S,(f s).1.length<=M)->(ez F sg f S).1.length<=S.length*M
 |[],h=>zero_le _
 |s::S,h=>by
  have h1:=h s mem_cons_self;have h2:=Fl (F:=F) (sg:=sg) (S:=S) (fun x hx=>h x (mem_cons_of_mem _ hx));rw[mo,length_cons,Nat.succ_mul];split
  ·omega
  ·split
   ·omega
   ·split
    ·omega
    ·simp only[length_append];omega
structure WkSt(l:Li)(s g n:Nat)(a:Aq):Prop where
  st:∃j r E y,QInv l j r E a/\eU s g n y j r E=true/\((splitG l).drop a.ms.length).countP kO<=y
  ln:a.ms.length+n=(splitG l).length
theorem WkSt.next{l:Li}{xs:List Tn}{s g n:Nat}(W:WkC l xs s g){a:Aq}(h:WkSt l s g (n+1) a):∃gr,(splitG l)[a.ms.length]?=some gr /\
  FP 18 [l.av,i64 a.ms.length,(bV gr xs).av,a.av] (.tup [.lst 3 ((dt l a.as gr (bV gr xs)).map Sv.av),br (kK l a.as gr (bV gr xs))]) /\
  SolP (dt l a.as gr (bV gr xs)) gr.kind a.ts.length gr.bo.length/\∀sv∈dt l a.as gr (bV gr xs),WkSt l s g n (a.nxt gr sv):=by
 obtain⟨⟨j,r,E,y,Q,ok,hc⟩,hl⟩:=h;obtain⟨gr,hg⟩:=aw (l:=splitG l) (i:=a.ms.length) oz;have hdr:=rD hg;rw[hdr,List.countP_cons]at hc
 have hy:gr.kind≠0->0<y:=fun hk=>by
  have:kO gr=true:=decide_eq_true hk;rw[if_pos this]at hc;omega
 obtain⟨y',j',r',E',ok',ey,hQ⟩:=Wa W hg Q ok hy;refine⟨gr,hg,Me W hg Q ok hy,KA W hg Q ok hy,fun sv hsv=>⟨⟨j',r',E',y',hQ sv hsv,ok',?_⟩,?_⟩⟩
 ·have e : (a.nxt gr sv).ms.length = a.ms.length + 1 := by show (a.ms ++ [sv.mode]).length = _; simp
  rw[e]
  by_cases hk:gr.kind=0
  ·have h1 : kO gr = false := by unfold kO; simp [hk]
   simp only[hk,ne_eq,not_true_eq_false,if_false]at ey;rw[h1]at hc;simp only[Bool.false_eq_true,if_false]at hc;omega
  ·have h1:kO gr=true:=decide_eq_true hk;rw[if_pos hk]at ey;rw[if_pos h1]at hc;omega
 ·show(a.ms++[sv.mode]).length+n=_;rw[length_append];simp only[length_cons,length_nil];omega
theorem Az{l:Li}{xs:List Tn}{s g:Nat}(W:WkC l xs s g)(F:Nat->Int->Bool)(sg:Bool):∀(n:Nat)(a:Aq),WkSt l s g n a->(eI F sg l xs (splitG l) n a).1.length<=2^n
 |0,a,h=>le_refl _
 |n+1,a,h=>by
  obtain⟨gr,hg,_,hP,hn⟩:=h.next W;unfold eI;rw[ao hg];split
  ·exact zero_le _
  ·have h1:=Fl (F:=F a.ms.length) (sg:=sg) (f:=fun sv=>eI F sg l xs (splitG l) n (a.nxt gr sv)) (M:=2^n) (S:=dt l a.as gr (bV gr xs)) (fun sv hsv=>Az W F sg n _ (hn sv hsv));have h2:=mul_le_mul_right (2^n) hP.two;rw[Nat.pow_succ];omega
theorem Ad{l:Li}{xs:List Tn}{s g:Nat}(W:WkC l xs s g)(F:Nat->Int->Bool)(sg:Bool){fo:FuncId}{caps:List AV}(hF:∀(k:Nat)(m:Int),k<(splitG l).length->FP fo ([i64 k,i64 m]++caps) (bl (F k m))) :
  ∀(n:Nat)(a:Aq),WkSt l s g n a->∀o:List Aq,o.length+2^n<=1000 ->
   Con prog 100 [.ptr 1000 0,a.av] (eZ l xs (splitG l) fo caps sg 1001 (o.map Aq.av)) (br (eI F sg l xs (splitG l) n a).2) (eZ l xs (splitG l) fo caps sg 900 ((o++(eI F sg l xs (splitG l) n a).1).map Aq.av))
 |0,a,h,o,ho=>by
  have hG:(splitG l).length<=100:=by have:=sM W.li;omega
  obtain⟨⟨j,r,E,y,Q,ok,_⟩,hl⟩:=h;obtain⟨hE,_,_⟩:=Vi ok;have hlb:=(cV W.li).2.2.2.1;have hln:=Q.ln;have h3:=Q.tw.three;obtain⟨D,N,hD,hts,h1,h2⟩:=Q.tw.rb
  exact V9 oz hG oz (Sj (e:=5000000000+E) Q.tw.five (fun x hx=>by
   obtain⟨i,hi⟩:=getElem?_of_mem hx;have hi2:=(List.getElem?_eq_some_iff.1 hi).1;have h9:=Q.tw.len i hi2;rw[ao hi]at h9;exact⟨Q.tw.five,.inr ⟨i,by omega,h9⟩,D,N,hts x hx,le_trans h1 (cI (by have:=Q.tw.le;omega)),le_trans h2 (cI (by have:=Q.tw.le;omega))⟩)
   (fun p hp=>(Q.bs p hp).up (le_refl _) Q.tw.five oz) oz oz oz oz)
 |n+1,a,h,o,ho=>by
  have hG:(splitG l).length<=100:=by have:=sM W.li;omega
  have hlb:=(cV W.li).2.2.2.1;have hln:=h.ln;obtain⟨j,r,E,y,Q,ok,_⟩:=h.st;obtain⟨gr,hg,hS,hP,hn⟩:=h.next W;obtain⟨hdy,hgo⟩:=s8 W.li (mem_of_getElem? hg);have h2:=ud W.li;have hxl:=W.ln;have hQl:=Q.ln;have hgb:=hgo.lb
  have key := LA (l := l) (xs := xs) (G := splitG l) (fo := fo) (caps := caps) (sg := sg) (o := o) hg hG oz (fun hk => by rw [hxl]; exact ES hdy hk) hS (by have := hP.two; omega) (F := F a.ms.length) (fun m => hF _ m oz)
   (fun sv hsv => Nn (fun b hb => by rw [hQl]; exact hgo.b b hb) (by
    obtain⟨i,hi⟩:=getElem?_of_mem hsv;exact(hP.md i sv hi).2.2) oz oz oz)
   (f:=fun sv=>eI F sg l xs (splitG l) n (a.nxt gr sv)) (M:=2^n) (B:=1000) (fun sv hsv=>Az W F sg n _ (hn sv hsv)) (by have:=mul_le_mul_right (2^n) hP.two;rw[Nat.pow_succ]at ho;omega)
   (fun o' ho' sv hsv=>Ad W F sg hF n _ (hn sv hsv) o' ho')
  have e:eI F sg l xs (splitG l) (n+1) a=(if kK l a.as gr (bV gr xs)≠0 then([],kK l a.as gr (bV gr xs))else ez (F a.ms.length) sg (fun sv=>eI F sg l xs (splitG l) n (a.nxt gr sv)) (dt l a.as gr (bV gr xs))):=by
   conv=>lhs;unfold eI
   rw[ao hg]
  rw[e]
  by_cases hE:kK l a.as gr (bV gr xs)≠0
  ·rw[if_pos hE]at key ⊢;rw[if_pos hE]at key;exact key
  ·rw[if_neg hE]at key ⊢;rw[if_neg hE]at key;exact key
abbrev qF(l:Li)(xs:List Tn)(G:List Gr)(fo:FuncId)(caps:List AV)(sg:Bool)(k0 k:Nat)(es:List AV):Hp :=
  [(k0,some (.box (ft l xs G fo caps sg (.ms k 3 0 es.length)))),(k,some (.row 3 es))]
def vJ(k:Nat):Nat:=bif Nat.beq k 1000 then 902 else bif Nat.beq k 902 then 1000 else pi k
theorem uh{a b:Nat}(h:¬a=b):Nat.beq a b=false:=by
 cases h1:Nat.beq a b
 ·rfl
 ·exact absurd (eq_of_beq_eq_true h1) h
theorem CY(k:Nat):vJ (vJ k)=k:=by
 by_cases h1:k=1000
 ·subst h1;rfl
 by_cases h2:k=902
 ·subst h2;rfl
 by_cases h3:k=1001
 ·subst h3;rfl
 by_cases h4:k=901
 ·subst h4;rfl
 have e:vJ k=k:=by simp only[vJ,pi,uh h1,uh h2,uh h3,uh h4,cond_false]
 rw[e,e]
theorem DQ{l:Li}{xs:List Tn}{G:List Gr}{fo:FuncId}{caps:List AV}{sg:Bool}{es:List AV}(h0:0<l.bo.length)(hl:l.bo.length<=100) :
  Con prog 101 [.ptr 902 0] (qF l xs G fo caps sg 902 901 es) (eL l).av (qF l xs G fo caps sg 902 901 es):=Con.pm CY (Ud h0 hl)
theorem Dp{l:Li}{xs:List Tn}{G:List Gr}{fo:FuncId}{caps:List AV}{sg:Bool}{es es':List AV}{a:Aq}{e:Nat}
  (h:Con prog 100 [.ptr 1000 0,a.av] (eZ l xs G fo caps sg 1001 es) (br e) (eZ l xs G fo caps sg 900 es')) :
  Con prog 100 [.ptr 902 0,a.av] (qF l xs G fo caps sg 902 901 es) (br e) (qF l xs G fo caps sg 902 900 es'):=Con.pm CY h
def eT:Nat->Int->Bool:=fun _ _=>true
def kf(F:Nat->Int->Bool)(sg:Bool)(l:Li)(xs:List Tn):List Aq×Nat:=eI F sg l xs (splitG l) (splitG l).length (eL l)
def g9(l:Li)(xs:List Tn):List Aq×Nat:=if cH l xs≠0 then([],cH l xs)else if(kf eT false l xs).2≠0 then([],(kf eT false l xs).2)else kf eT false l xs
theorem QZ{l:Li}{xs:List Tn}(h0:cH l xs≠0)(hop:Con prog 99 [l.av,.lst 4 (xs.map Tn.av)] [] (.tup [qG (cH l xs),br (cH l xs)]) (r4 (cH l xs) l xs)) :
  FP 33 [l.av,.lst 4 (xs.map Tn.av)] (.tup [.lst 3 [],br (cH l xs)]):=by
 rw[kR h0,uP h0]at hop;refine aj func33 ?_;refine gc hop ?_;refine gC (fun t16=>?_) (fun t16=>?_) (st2:=(77777,0))
 ·refine gR ?_;exact dF (Sub.tup (.cons (.nil _ _ _) (.cons (.refl _) .nil)))
 exact absurd (cZ t16) h0
theorem OP{l:Li}{xs:List Tn}(h0:cH l xs=0)(hop:Con prog 99 [l.av,.lst 4 (xs.map Tn.av)] [] (.tup [qG (cH l xs),br (cH l xs)]) (r4 (cH l xs) l xs))(hb:0<l.bo.length)(hl:l.bo.length<=100)
  {R:List Aq×Nat} (hw:Con prog 100 [.ptr 1000 0,(eL l).av] (eZ l xs (splitG l) 198 [] false 1001 []) (br R.2) (eZ l xs (splitG l) 198 [] false 900 (R.1.map Aq.av))) :
  FP 33 [l.av,.lst 4 (xs.map Tn.av)] (.tup [.lst 3 ((if R.2≠0 then[]else R.1).map Aq.av),br R.2]):=by
 rw[h0]at hop;have hop:Con prog 99 [l.av,.lst 4 (xs.map Tn.av)] [] (.tup [.ptr 900 0,.v .nilIface]) [(900,some (.box (ft l xs (splitG l) 198 [] false (nS))))]:=hop;refine aj func33 ?_;refine gt (aG hop (bC rfl rfl) aH rfl rfl) ?_;refine gC (fun t16=>?_) (fun t16=>?_) (st1:=(3,0)) (st2:=(77777,0));cases t16;refine gW (Wk.o (sl:=[(6,some (.ptr 900 0))]) (hp:=[(900,some (.box (ft l xs (splitG l) 198 [] false (nS))))])) ?_ (77777,0);refine gW (Wk.rk (k:=900) (d:=902) rfl rfl) ?_ (77777,0);refine gW (Wk.virt 901 3 rfl) ?_ (77777,0);refine gW (Wk.of (sl:=[(6,some (.ptr 902 0))]) (hp:=qF l xs (splitG l) 198 [] false 902 901 []) (.k .nil) (.cons rfl (BlkSub.bL (.cons (.refl _) (.cons (.refl _) (.cons (.refl _) (.cons (.refl _) (.cons (.refl _) (.cons (.refl _) (.cons (.refl _) (.cons (.refl _) (.cons (Sub.nM _ _ _) .nil))))))))) rfl) (.k .nil))) ?_;refine gt (Au (DQ hb hl) (cA rfl) rfl rfl rfl rfl rfl) ?_;refine gt (aG (Dp hw) (bC rfl rfl) aH rfl rfl) ?_;refine gC (fun t23=>?_) (fun t23=>?_) (st2:=(77777,0))
 ·have hE:=df t23;refine gR ?_;exact dF (by rw[if_pos hE];exact Sub.tup (.cons (.nil _ _ _) (.cons (.refl _) .nil)))
 have hE:=cZ t23;refine gW ((Wk.freeze (k:=900) rfl).trans<|Wk.of (sl:=[(6,some (.ptr 902 0))]) (hp:=[(902,some (.box (ft l xs (splitG l) 198 [] false (.lst 3 (R.1.map Aq.av)))))]) a7 (.cons rfl (BlkSub.bL (.cons (.refl _) (.cons (.refl _) (.cons (.refl _) (.cons (.refl _) (.cons (.refl _) (.cons (.refl _) (.cons (.refl _) (.cons (.refl _) (.cons (Sub.of (bQ rfl)) .nil))))))))) rfl) .nil)) ?_;refine gR ?_;exact dF (Sub.of (by rw[if_neg oz,hE];rfl))
def F6(modes:List Int):Nat->Int->Bool:=fun k m=>decide (m=modes.getD k 0)
theorem Q5{l:Li}{xs:List Tn}{modes:List Int}(hml:modes.length<=100)(h0:cH l xs=0)(hop:Con prog 99 [l.av,.lst 4 (xs.map Tn.av)] [] (.tup [qG (cH l xs),br (cH l xs)]) (r4 (cH l xs) l xs))(hb:0<l.bo.length)(hl:l.bo.length<=100)(hsl:(splitG l).length<=100)
  {R:List Aq×Nat} (hw:modes.length=(splitG l).length->Con prog 100 [.ptr 1000 0,(eL l).av] (eZ l xs (splitG l) 223 [.iptr [.lst 1 (modes.map i64)]] true 1001 []) (br R.2) (eZ l xs (splitG l) 223 [.iptr [.lst 1 (modes.map i64)]] true 900 (R.1.map Aq.av))) (hR:R.1.length<=1000) :
  FP 109 [l.av,.lst 4 (xs.map Tn.av),.lst 1 (modes.map i64)] (.tup [(if modes.length≠(splitG l).length then Aq.mk [] [] []else if R.2≠0 then Aq.mk [] [] []else R.1.getD 0 (Aq.mk [] [] [])).av,br (if modes.length≠(splitG l).length then 10 else if R.2≠0 then R.2 else if R.1=[]then 16 else 0)]):=by
 rw[h0]at hop;have hop:Con prog 99 [l.av,.lst 4 (xs.map Tn.av)] [] (.tup [.ptr 900 0,.v .nilIface]) [(900,some (.box (ft l xs (splitG l) 198 [] false (nS))))]:=hop;refine aj func109 ?_;refine gt (aG hop (bC rfl rfl) aH rfl rfl) ?_;refine gC (fun t18=>?_) (fun t18=>?_) (st1:=(3,0)) (st2:=(77777,0));cases t18;refine gW (Wk.o (sl:=[(5,some (.ptr 5 0)),(6,some (.ptr 6 0)),(8,some (.ptr 900 0))]) (hp:=[(5,some (.box [.lst 1 (modes.map i64)])),(6,some (.box [nS,nS,nS])),(900,some (.box (ft l xs (splitG l) 198 [] false (nS))))])) ?_ (77777,0);refine gW (Wk.rk (k:=900) (d:=902) rfl rfl) ?_;refine gl ?_;refine gl ?_;refine gD ?_;refine gC (fun t28=>?_) (fun t28=>?_) (st2:=(77777,0))
 ·have h1:=yn t28;refine gR ?_;exact dF (by rw[if_pos h1,if_pos h1];exact Sub.tup (.cons (Sub.agg (.cons (.nil _ _ _) (.cons (.nil _ _ _) (.cons (.nil _ _ _) .nil))) rfl) (.cons (.refl _) .nil)))
 have h1:=A9 t28;have hm:¬(modes.length≠(splitG l).length):=fun h=>h h1
 refine gW ((Wk.freezeB (k:=5) rfl rfl).trans<|Wk.o (sl:=[(5,some (.iptr [.lst 1 (modes.map i64)])),(6,some (.ptr 6 0)),(8,some (.ptr 902 0))]) (hp:=[(6,some (.box [nS,nS,nS])),(902,some (.box (ft l xs (splitG l) 198 [] false (nS))))])) ?_ (7,0);refine gW (Wk.of (sl:=[(6,some (.ptr 6 0)),(8,some (.ptr 902 0))]) (hp:=[(6,some (.box [nS,nS,nS])),(902,some (.box (ft l xs (splitG l) 223 [.iptr [.lst 1 (modes.map i64)]] true (nS))))]) a7 (.k (.cons rfl (BlkSub.bL (.cons (.refl _) (.cons (.refl _) (.cons (.refl _) (.cons (.refl _) (.cons (.refl _) (.cons (.refl _) (.cons (qX rfl) (.cons (.refl _) (.cons (.refl _) .nil))))))))) rfl) .nil))) ?_ (7,0)
 refine gW (Wk.virt 901 3 rfl) ?_ (7,0);refine gW (Wk.of (sl:=[(6,some (.ptr 6 0)),(8,some (.ptr 902 0))]) (hp:=(6,some (.box [nS,nS,nS]))::qF l xs (splitG l) 223 [.iptr [.lst 1 (modes.map i64)]] true 902 901 []) (.k (.k .nil)) (.k (.cons rfl (BlkSub.bL (.cons (.refl _) (.cons (.refl _) (.cons (.refl _) (.cons (.refl _) (.cons (.refl _) (.cons (.refl _) (.cons (.refl _) (.cons (.refl _) (.cons (Sub.nM _ _ _) .nil))))))))) rfl) (.k .nil)))) ?_
 refine gt (Au (DQ hb hl) (cA rfl) rfl rfl rfl rfl rfl) ?_;refine gt (aG (Dp (hw h1)) (bC rfl rfl) aH rfl rfl) ?_;refine gC (fun t43=>?_) (fun t43=>?_) (st2:=(77777,0))
 ·have hE:=df t43;refine gR ?_;exact dF (by rw[if_neg hm,if_neg hm,if_pos hE,if_pos hE];exact Sub.tup (.cons (Sub.agg (.cons (.nil _ _ _) (.cons (.nil _ _ _) (.cons (.nil _ _ _) .nil))) rfl) (.cons (.refl _) .nil)))
 have hE:=cZ t43;have hE':¬(R.2≠0):=fun h=>h hE
 refine gW ((Wk.freeze (k:=900) rfl).trans<|Wk.of (sl:=[(6,some (.ptr 6 0)),(8,some (.ptr 902 0))]) (hp:=[(6,some (.box [nS,nS,nS])),(902,some (.box (ft l xs (splitG l) 223 [.iptr [.lst 1 (modes.map i64)]] true (.lst 3 (R.1.map Aq.av)))))]) a7 (.k (.cons rfl (BlkSub.bL (.cons (.refl _) (.cons (.refl _) (.cons (.refl _) (.cons (.refl _) (.cons (.refl _) (.cons (.refl _) (.cons (.refl _) (.cons (.refl _) (.cons (Sub.of (bQ rfl)) .nil))))))))) rfl) .nil))) ?_
 refine gl ?_;refine gC (fun t51=>?_) (fun t51=>?_)
 ·have h2 : R.1=[] := List.length_eq_zero_iff.1 (by simpa[aa]using t51);refine gR ?_;exact dF (by rw[if_neg hm,if_neg hm,if_neg hE',if_neg hE',if_pos h2,h2];exact Sub.tup (.cons (Sub.agg (.cons (.nil _ _ _) (.cons (.nil _ _ _) (.cons (.nil _ _ _) .nil))) rfl) (.cons (.refl _) .nil)))
 have h2:R.1≠[]:=fun h=>by rw[h]at t51;exact absurd t51 (by simp[aa])
 obtain⟨a0,ha0⟩:=aw (l:=R.1) (i:=0) (by cases hh:R.1 with |nil=>exact absurd hh h2 |cons _ _=>simp);refine gi (aA ha0) ?_;refine gR ?_;exact dF (Sub.of (by rw[if_neg hm,if_neg hm,if_neg hE',if_neg hE',if_neg h2,ao ha0];rfl))
theorem Rt.qbV{r:Rt}{e:Nat}(h:r.ok)(he:1<=e)(hn:val r.num<2^e)(hd:val r.den<2^e):Qb e r.q:=by
 by_cases h0:r.valid=true/\r.num≠[]
 ·obtain⟨h1,h2,h3,h4,h5,h6⟩:=Rt.parts h h0.1 h0.2;refine⟨?_,?_⟩
  ·have : r.q.num.natAbs = val r.num := by rw [h1]; unfold sgn; split <;> omega
   rw[this];exact hn
  ·rw[h2];exact hd
 ·rw[Rt.zero h0];exact Qb.zero.mono he
theorem G9{l:List Nat}{b e:Nat}(h:¬1<l.length)(hb:l.length=1->ai l 0<=b)(he:b<2^e):val l<2^e:=by
 match l with
 |[]=>exact lt_of_le_of_lt (zero_le b) he
 |[x] =>
  have h1:x<=b:=hb rfl;have h2:val [x]=x:=by simp[val]
  rw[h2];omega
 |_::_::_=>simp at h
theorem yS{r:Rt}(h:r.ok)(hl:kQ r=true):Qb 9 r.q:=by
 unfold kQ at hl;rw[iS,iS,iS,Bool.not_eq_true',Bool.or_eq_false_iff,Bool.or_eq_false_iff,Bool.or_eq_false_iff]at hl;obtain⟨⟨⟨h1,h2⟩,h3⟩,h4⟩:=hl;have g1:r.num.length<=1:=gI (b:=1) h1;have g2:r.den.length<=1:=gI (b:=1) h2;refine Rt.qbV h oz (G9 (b:=400) oz (fun hh=>?_) (by decide)) (G9 (b:=20) oz (fun hh=>?_) (by decide))
 ·rw[hh]at h3;exact gI (b:=400) h3
 ·rw[hh]at h4;exact gI (b:=20) h4
theorem PP{l:Li}{xs:List Tn}(h:cH l xs=0):aD l=0/\splitE l=0/\xs.length=l.dv.length/\∀x∈xs,x.err=0:=by
 unfold cH at h;split at h
 ·rename_i h1;exact absurd h h1
 ·rename_i h1;have h1:=Decidable.not_not.1 h1;unfold tt at h;split at h
  ·rename_i h2;exact absurd h h2
  ·rename_i h2;have h2:=Decidable.not_not.1 h2;split at h
   ·cases h
   ·rename_i h3;exact⟨h1,h2,Decidable.not_not.1 h3,fun x hx=>nU h _ (List.mem_map.2 ⟨x,hx,rfl⟩)⟩
theorem Kq(gs:List Gr):gs.countP kO+gs.countP (fun g=>decide (g.kind=0))=gs.length:=by
 induction gs with
 |nil=>rfl
 |cons g gs ih =>
  rw[List.countP_cons,List.countP_cons,length_cons]
  by_cases hk:g.kind=0
  ·have h1 : kO g = false := by unfold kO; simp [hk]
   rw[h1];simp only[hk,decide_true,Bool.false_eq_true,if_false,if_true];omega
  ·have h1:kO g=true:=decide_eq_true hk;rw[h1];simp only[hk,decide_false,Bool.false_eq_true,if_false,if_true];omega
theorem vo{s g:Nat}:∀{n m y y' j r E:Nat},eU s g n y j r E=true->m<=n->y'<=y->eU s g m y' j r E=true
 |n,0,y,y',j,r,E,h,hm,hy=>by
  have h1:=tZ h;exact decide_eq_true h1
 |n+1,m+1,y,y',j,r,E,h,hm,hy=>by
  have h1:=rP h;unfold eU;simp only[and_eq_true,or_eq_true,decide_eq_true_eq];refine⟨tZ h,vo h1.2 oz hy,?_⟩
  by_cases hz:y'=0
  ·exact .inl hz
  ·right;obtain ⟨y2,rfl⟩:∃ y2,y = y2 + 1:=⟨y - 1,by omega⟩
   have h2:=sS h;exact⟨h2.1,vo h2.2 oz oz⟩
theorem wd{l:Li}{xs:List Tn}(hL:iO l xs=true)(hl:l.ok)(hxw:∀x∈xs,x.t.wok)(h0:cH l xs=0):∃s g,WkC l xs s g/\WkSt l s g (splitG l).length (eL l):=by
 obtain⟨hli,hsp,hln,hxe⟩:=PP h0;unfold iO at hL;simp only[and_eq_true,decide_eq_true_eq]at hL;obtain⟨⟨_,_⟩,hT,hM,hR⟩:=hL;rw[all_eq_true]at hT hM;rw[if_pos hli]at hR;unfold Br at hR;rw[iS,iS,iz]at hR;have hdl:=TM hli hsp;have hd2:=ud hli;have hcn:=Kq (splitG l)
 have hxo:∀x∈xs,x.t.ok/\Qb 32 x.t.q:=fun x hx=>by
  have h9:=hT x hx;unfold mh at h9;rw[decide_eq_true_eq]at h9;have ho:=(hxw x hx).ok h9.1 h9.2 oz;exact⟨ho,(Rt.qb ho (k:=1) oz h9.1 h9.2).mono oz⟩
 have hstart:∀(s g n y:Nat),eU s g n y 0 0 2=true->(splitG l).length<=n->(splitG l).countP kO<=y->WkSt l s g (splitG l).length (eL l):=fun s g n y ok h1 h2 =>
  ⟨⟨0,0,2,y,Cn l,vo ok h1 (le_refl _),h2⟩,Nat.zero_add _⟩
 by_cases hn:(splitG l).length<=l.dv.length+1
 ·refine⟨32,134,⟨hl,hli,hsp,?_,hln,fun x hx=>?_⟩,hstart 32 134 3 1 Di oz oz⟩
  ·intro b hb m hm;have h9:=hM b hb;rw[all_eq_true]at h9;have h8:=h9 m hm;unfold lc at h8;rw[decide_eq_true_eq]at h8;have ho:=(hl.bo b hb).pts m hm;exact⟨(Rt.qb ho.x (k:=1) oz h8.1 h8.2.1).mono oz,(Rt.qb ho.y (k:=1) oz h8.2.2.1 h8.2.2.2).mono oz⟩
  ·obtain⟨h1,h2⟩:=hxo x hx;exact⟨h1,hxe x hx,h2.mono oz,Cb.one (qY h2),Cb.one (tQ h2)⟩
 ·have hlow:(splitG l).length=l.dv.length+2/\p7 xs=true/\p5 l=true:=by
   simp only[or_eq_true,and_eq_true]at hR;rcases hR with(h9 |h9) |⟨h9,h8⟩
   ·rw[hsp]at h9;exact absurd h9 (by simp[aa])
   ·have : ((splitG l).length : Int) - l.dv.length <= 1 := by simpa [aa] using h9
    omega
   ·have : ((splitG l).length : Int) - l.dv.length = 2 := by simpa [aa] using h9
    exact⟨by omega,h8.1,h8.2⟩
  obtain⟨hlen,hlT,hlL⟩:=hlow;refine⟨9,42,⟨hl,hli,hsp,?_,hln,fun x hx=>?_⟩,hstart 9 42 4 2 VY oz oz⟩
  ·intro b hb m hm;unfold p5 at hlL;rw[all_eq_true]at hlL;have h9:=hlL b hb;unfold tk at h9;rw[all_eq_true]at h9;have h8:=h9 m hm;simp only[all_cons,List.all_nil,Bool.and_true,and_eq_true]at h8;have ho:=(hl.bo b hb).pts m hm;exact⟨yS ho.x h8.1,yS ho.y h8.2⟩
  ·obtain⟨h1,h2⟩:=hxo x hx;unfold p7 at hlT;rw[all_eq_true]at hlT;have h8:=hlT x hx;simp only[all_cons,List.all_nil,Bool.and_true]at h8;have h9:=yS h1 h8;exact⟨h1,hxe x hx,h2.mono oz,Cb.one (qY h9),Cb.one (tQ h9)⟩
def oo(m:Mk):Mk:=⟨m.name,rt m.x.q,rt (-m.y.q)⟩
def kT(b:Bd):Bd:=⟨b.name,b.pts.map oo⟩
def yW(l:Li):Li:=⟨l.name,l.bo.map kT,l.jo,l.dv⟩
structure SameJ(l' l:Li):Prop where
  j:l'.jo=l.jo
  d:l'.dv=l.dv
  b:l'.bo.length=l.bo.length
section
variable{l' l:Li}(h:SameJ l' l)
include h
theorem SameJ.jointI(kind body:Int)(oth:List Bool):jointI l' kind body oth=jointI l kind body oth:=by unfold Lw.jointI;rw[h.j]
theorem SameJ.freeB(k:List Bool)(i:Int):freeB l' k i=freeB l k i:=by unfold Lw.freeB lV;rw[h.d]
theorem SameJ.drHit(k:List Bool)(i:Nat):drHit l' k i=drHit l k i:=by unfold Lw.drHit;simp only[h.d,h.jointI]
theorem SameJ.driverG(k:List Bool):driverG l' k=driverG l k:=by unfold Lw.driverG;simp only[h.d,h.jointI,h.drHit]
theorem SameJ.prHit(k:List Bool)(i j:Nat):prHit l' k i j=prHit l k i j:=by unfold Lw.prHit;simp only[h.freeB,h.jointI,h.b]
theorem SameJ.prAt(k:List Bool)(i:Nat):prAt l' k i=prAt l k i:=by unfold Lw.prAt;simp only[h.prHit,h.b]
theorem SameJ.prG(k:List Bool)(i j:Nat):prG l' k i j=prG l k i j:=by unfold Lw.prG;simp only[h.jointI,h.b]
theorem SameJ.pairG(k:List Bool):pairG l' k=pairG l k:=by unfold Lw.pairG;simp only[h.prAt,h.prG,h.b]
theorem SameJ.sgHit(k:List Bool)(i:Nat):sgHit l' k i=sgHit l k i:=by unfold Lw.sgHit;simp only[h.freeB,h.jointI]
theorem SameJ.sgG(k:List Bool)(i:Nat):sgG l' k i=sgG l k i:=by unfold Lw.sgG;simp only[h.jointI,h.j]
theorem SameJ.singleG(k:List Bool):singleG l' k=singleG l k:=by
 unfold Lw.singleG;have e:Lw.sgG l' k=Lw.sgG l k:=funext (h.sgG k);simp only[h.sgHit,h.b,e]
theorem SameJ.nextG(k:List Bool):nextG l' k=nextG l k:=by unfold Lw.nextG;rw[h.driverG,h.pairG,h.singleG]
theorem SameJ.findFrom:∀(n:Nat)(k:List Bool)(out:List Gr),findFrom l' n k out=findFrom l n k out
 |0,k,out=>rfl
 |n+1,k,out=>by
  unfold Lw.findFrom;rw[h.nextG];cases Lw.nextG l k with
  |none=>rfl
  |some g=>exact SameJ.findFrom n _ _
theorem SameJ.findG:findG l'=findG l:=by unfold Lw.findG;rw[h.b,h.findFrom]
theorem SameJ.splitE:splitE l'=splitE l:=by unfold Lw.splitE bU d6;rw[h.findG,h.b,h.j]
theorem SameJ.splitG:splitG l'=splitG l:=by unfold Lw.splitG;rw[h.splitE,h.findG]
end
def IP:Li:=⟨⟨#[]⟩,[],[],[]⟩
def vR(l:Li):Li:=if aD l=0 then yW l else IP
theorem Fc{l:Li}(h:aD l=0):vR l=yW l:=if_pos h
theorem Vu{l:Li}(h:aD l≠0):vR l=IP:=if_neg h
theorem NU{l:Li}(h:aD l=0):∀b∈l.bo,b.pts.length<=8:=by
 intro b hb
 have h5:gN l=0:=by
  unfold aD at h;split at h
  ·cases h
  ·split at h
   ·cases h
   ·split at h
    ·cases h
    ·split at h
     ·rename_i h4;exact absurd h h4
     ·omega
 obtain⟨i,hi⟩:=getElem?_of_mem hb;have h6:=qo h5 i (List.getElem?_eq_some_iff.1 hi).1;unfold d7 at h6;rw[ao hi]at h6;split at h6
 ·cases h6
 ·split at h6
  ·cases h6
  ·split at h6
   ·cases h6
   ·rename_i h7;omega
theorem GE{l:Li}(h:aD l=0):l.jo.length<=16/\l.dv.length<=2:=by
 obtain⟨_,h1,h2,_⟩:=cV h;constructor
 ·unfold eF at h1;split at h1
  ·cases h1
  ·omega
 ·unfold fV at h2;split at h2
  ·cases h2
  ·omega
def Jt.vs(j:Jt):List Value:=[.string j.name,.int .i64 j.kind,.int .i64 j.a,.int .i64 j.point,.int .i64 j.b,.int .i64 j.on,.int .i64 j.to]
def Dr.vs(d:Dr):List Value:=[.string d.name,.int .i64 d.body]
structure Gr.sm(g:Gr):Prop where
  b:g.bo.length<=100
  j:g.jo.length<=100
abbrev vW:List AV:=[.v (.string ⟨#[]⟩),nS,nS,nS]
theorem G2{α β:Type}{f:α->β}{g:β->AV}{l:List α}{i:Nat}{x:α}(h:l[i]?=some x):((l.take (i+1)).map f).map g=((l.take i).map f).map g++[g (f x)]:=by
 rw[ef h,map_append,map_append];rfl
theorem v8{α β:Type}{f:α->β}{g:β->AV}{l:List α}{i:Nat}(h:i<=l.length):(((l.take i).map f).map g).length=i:=by rw[length_map,length_map,length_take];omega
theorem Gx{β:Type}{g:β->AV}{l:List β}{i:Nat}(h:i<=l.length):((l.take i).map g).length=i:=by rw[length_map,length_take];omega
theorem V5(x:Rt)(hx:x.ok):FP 120 [x.av] (qA x.q):=by
 have hadd:=mx x (rt 0) hx Qs.zero.ok;rw[tT]at hadd;refine aj func120 ?_;refine gc (Con.sA (.cons (.refl _) (.cons jp .nil)) hadd) ?_;refine af ?_;rfl
theorem Rk(e:AV)(es:List AV)(hc:∀x∈e::es,x.cells.length=7)(hl:(e::es).length<=1000):FP 118 [.lst 7 (e::es)] (.lst 7 (e::es)):=by
 refine aj func118 ?_;refine gs (uu (.tmp rfl) (by kernel_rfl) rfl) ?_;refine gC (fun t4=>?_) (fun t4=>?_) (st1:=(2,0));cases t4;refine gs (iH T23 rfl T75 rfl rfl rfl) ?_;refine gs (oc (.tmp rfl) rfl rfl (.tmp rfl) T23 rfl T75 rfl rfl (by simp only[];omega) rfl rfl) ?_;refine af ?_;rfl
theorem Ot(e:AV)(es:List AV)(hc:∀x∈e::es,x.cells.length=2)(hl:(e::es).length<=1000):FP 119 [.lst 2 (e::es)] (.lst 2 (e::es)):=by
 refine aj func119 ?_;refine gs (uu (.tmp rfl) (by kernel_rfl) rfl) ?_;refine gC (fun t4=>?_) (fun t4=>?_) (st1:=(2,0));cases t4;refine gs (iH T24 rfl T185 rfl rfl rfl) ?_;refine gs (oc (.tmp rfl) rfl rfl (.tmp rfl) T24 rfl T185 rfl rfl (by simp only[];omega) rfl rfl) ?_;refine af ?_;rfl
theorem SJ(a:Option Addr)(cap:Nat):FP 118 [.v (.slice a 0 cap)] (.lst 7 []):=by
 refine aj func118 ?_;refine gs (vm (.tmp rfl) (by kernel_rfl) rfl) ?_;refine gC (fun t4=>?_) (fun t4=>?_) (st2:=(77777,0))
 ·refine gR ?_;exact dF (Sub.nil _ _ _)
 refine gW (Wk.of (sl:=[(0,some (.lst 7 []))]) (hp:=[]) (.cons rfl (Sub.nil _ _ _) .nil) .nil) ?_;refine gs (iH T23 rfl T75 rfl rfl rfl) ?_;refine gs (oc (.tmp rfl) rfl rfl (.tmp rfl) T23 rfl T75 rfl rfl (by simp) rfl rfl) ?_;refine af ?_;rfl
theorem Tq(a:Option Addr)(cap:Nat):FP 119 [.v (.slice a 0 cap)] (.lst 2 []):=by
 refine aj func119 ?_;refine gs (vm (.tmp rfl) (by kernel_rfl) rfl) ?_;refine gC (fun t4=>?_) (fun t4=>?_) (st2:=(77777,0))
 ·refine gR ?_;exact dF (Sub.nil _ _ _)
 refine gW (Wk.of (sl:=[(0,some (.lst 2 []))]) (hp:=[]) (.cons rfl (Sub.nil _ _ _) .nil) .nil) ?_;refine gs (iH T24 rfl T185 rfl rfl rfl) ?_;refine gs (oc (.tmp rfl) rfl rfl (.tmp rfl) T24 rfl T185 rfl rfl (by simp) rfl rfl) ?_;refine af ?_;rfl
theorem Sr(es:List AV)(hc:∀x∈es,x.cells.length=7)(hl:es.length<=1000):FP 118 [.lst 7 es] (.lst 7 es):=by
 cases es with
 |nil=>exact CM SJ
 |cons e es=>exact Rk e es hc hl
theorem Qq(es:List AV)(hc:∀x∈es,x.cells.length=2)(hl:es.length<=1000):FP 119 [.lst 2 es] (.lst 2 es):=by
 cases es with
 |nil=>exact CM Tq
 |cons e es=>exact Ot e es hc hl
theorem LW(l:Li)(h1:aD l=0):FP 118 [.lst 7 (l.jo.map Jt.av)] (.lst 7 (l.jo.map Jt.av)) :=
 Sr _ (fun x hx=>by obtain⟨j,_,rfl⟩:=List.mem_map.1 hx;rfl) (by rw[length_map];have:=(GE h1).1;omega)
theorem NN(l:Li)(h1:aD l=0):FP 119 [.lst 2 (l.dv.map Dr.av)] (.lst 2 (l.dv.map Dr.av)) :=
 Qq _ (fun x hx=>by obtain⟨j,_,rfl⟩:=List.mem_map.1 hx;rfl) (by rw[length_map];have:=(GE h1).2;omega)
theorem K8(l:Li)(hl:l.ok):FP 46 [l.av] (.tup [(vR l).av,br (aD l)]):=by
 refine aj func46 ?_;refine gc (uk l hl) ?_;refine gC (fun t14=>?_) (fun t14=>?_)
 ·have h1:=df t14;refine gR ?_;exact Iy (by rw[Vu h1];exact Sub.agg (.cons (.refl _) (.cons (.nil _ _ _) (.cons (.nil _ _ _) (.cons (.nil _ _ _) .nil)))) rfl) (.refl _)
 have h1:=cZ t14;have hll:=(cV h1).2.2.2.1;have hpp:=NU h1;refine gc (LW l h1) ?_;refine gc (NN l h1) ?_;refine gD ?_;refine gl ?_;refine gW (Wk.virt 900 2 rfl) ?_;refine aU [2,5,27,28] [2] (fun(i:Nat)=>[(29,some (i64 i))]) (fun i=>[(5,some (.box [.v (.string l.name),.ms 900 2 0 i,.lst 7 (l.jo.map Jt.av),.lst 2 (l.dv.map Dr.av)])),(900,some (.row 2 (((l.bo.take i).map kT).map Bd.av)))]) (fun i=>i<=l.bo.length) (fun i=>l.bo.length-i) 0 (zero_le _) ?_ (h2:=(.cons rfl (BlkSub.bL (.cons (.refl _) (.cons (.nM _ _ _) (.cons (.refl _) (.cons (.refl _) .nil)))) rfl) (.k .nil)))
 rintro i hi K1 J1;refine gC (fun t30=>?_) (fun t30=>?_) (st2:=(16,0))
 ·have hin:=a5 t30;obtain⟨b,hb⟩:=aw hin;have hbo:=hl.bo b (mem_of_getElem? hb);have hpl:=hpp b (mem_of_getElem? hb);refine gi (aA hb) ?_;refine gl ?_;refine gW (Wk.virt 901 7 rfl) ?_;refine aU [2,5,8,27,28,29,37,38] [2,5,900] (fun(k:Nat)=>[(39,some (i64 k))]) (fun k=>[(8,some (.box [.v (.string b.name),.ms 901 7 0 k])),(901,some (.row 7 (((b.pts.take k).map oo).map Mk.av)))]) (fun k=>k<=b.pts.length) (fun k=>b.pts.length-k) 0 (zero_le _) ?_ (h2:=(.cons rfl (BlkSub.bL (.cons (.refl _) (.cons (.nM _ _ _) .nil)) rfl) (.k .nil)));rintro k hk K2 J2;refine gC (fun t40=>?_) (fun t40=>?_) (st2:=(14,0))
  ·have hkn:=a5 t40;obtain ⟨m,hm⟩:=aw hkn;have hmo:=hbo.pts m (mem_of_getElem? hm);refine gi (aA hm) ?_;refine gc (V5 m.x hmo.x) ?_;refine gc (Av m.y hmo.y) ?_;refine gs (cz (.tmp rfl) rfl (v8 oz).symm (.tmp rfl) T171 rfl T175 rfl rfl (by simp only [length_cons,length_nil]; omega) rfl rfl) ?_;refine gD ?_ (13,0);refine gW (Wk.of (sl:=[(2,some (.ptr 2 0)),(5,some (.ptr 5 0)),(8,some (.ptr 8 0)),(27,some (.lst 2 (l.bo.map Bd.av))),(28,some (i64 l.bo.length)),(29,some (i64 i)),(37,some (.lst 7 (b.pts.map Mk.av))),(38,some (i64 b.pts.length)),(39,some (i64 k))]) (hp:=[(2,some (.box vW)),(5,some (.box [.v (.string l.name),.ms 900 2 0 i,.lst 7 (l.jo.map Jt.av),.lst 2 (l.dv.map Dr.av)])),(8,some (.box [.v (.string b.name),.ms 55 7 0 (k + 1)])),(900,some (.row 2 (((l.bo.take i).map kT).map Bd.av))),(55,some (.row 7 (((b.pts.take (k + 1)).map oo).map Mk.av)))]) a7 (.k (.k (.k (.k (.cons rfl (BlkSub.of (by rw [G2 hm]; rfl)) .nil)))))) ?_ (13,0)
   refine gW (Wk.rk (k:=55) (d:=901) rfl rfl) ?_;refine ga aN ?_;exact aP J2 (k+1) hkn
  have hkn:=bh hk t40;subst hkn;refine gW ((Wk.freeze (k:=901) rfl).trans<|Wk.of (sl:=[(2,some (.ptr 2 0)),(5,some (.ptr 5 0)),(8,some (.ptr 8 0)),(27,some (.lst 2 (l.bo.map Bd.av))),(28,some (i64 l.bo.length)),(29,some (i64 i))]) (hp:=[(2,some (.box vW)),(5,some (.box [.v (.string l.name),.ms 900 2 0 i,.lst 7 (l.jo.map Jt.av),.lst 2 (l.dv.map Dr.av)])),(8,some (.box [.v (.string b.name),.lst 7 ((b.pts.map oo).map Mk.av)])),(900,some (.row 2 (((l.bo.take i).map kT).map Bd.av)))]) a7 (.k (.k (.cons rfl (BlkSub.bL (.cons (.refl _) (.cons (.of (by rw[bQ (v8 (le_refl _)).symm,take_length])) .nil)) rfl) (.k .nil))))) ?_
  refine gs (cz (.tmp rfl) rfl (v8 oz).symm (.tmp rfl) T22 rfl T173 rfl rfl (by simp only[length_cons,length_nil];omega) rfl rfl) ?_ (15,0);refine gW (Wk.of (sl:=[(2,some (.ptr 2 0)),(5,some (.ptr 5 0)),(27,some (.lst 2 (l.bo.map Bd.av))),(28,some (i64 l.bo.length)),(29,some (i64 i))]) (hp:=[(2,some (.box vW)),(5,some (.box [.v (.string l.name),.ms 62 2 0 (i+1),.lst 7 (l.jo.map Jt.av),.lst 2 (l.dv.map Dr.av)])),(62,some (.row 2 (((l.bo.take (i+1)).map kT).map Bd.av)))]) a7 (.k (.k (.cons rfl (BlkSub.of (by rw[G2 hb];rfl)) .nil)))) ?_ (15,0)
  refine gW (Wk.rk (k:=62) (d:=900) rfl rfl) ?_;refine ga aN ?_;exact aP J1 (i+1) hin
 have hin:=bh hi t30;subst hin;refine gW ((Wk.freeze (k:=900) rfl).trans<|Wk.of (sl:=[(2,some (.ptr 2 0)),(5,some (.ptr 5 0))]) (hp:=[(2,some (.box vW)),(5,some (.box (yW l).av.cells))]) a7 (.k (.cons rfl (BlkSub.bL (.cons (.refl _) (.cons (.of (by rw[bQ (v8 (le_refl _)).symm,take_length];rfl)) (.cons (.refl _) (.cons (.refl _) .nil)))) rfl) .nil))) ?_;refine bF ?_;rw[Fc h1,h1];rfl
theorem FB(a:List Nat)(ha:a.length<=281474976710656):FP 369 [ws a,ws a] (bl true):=by
 refine aj func369 ?_;refine gl ?_;refine gl ?_;refine gC (fun t10=>?_) (fun t10=>?_) (st1:=(2,0));exact absurd t10 (by simp[aa]);refine aU [0,1] [] (fun(i:Nat)=>[(5,some (i64 i))]) (fun _=>[]) (fun i=>i<=a.length) (fun i=>a.length-i) 0 (zero_le _) ?_;rintro i hi K1 J1;refine gl ?_;refine gC (fun t14=>?_) (fun t14=>?_)
 ·have hin:=a5 t14;obtain⟨x,hx⟩:=aw hin;refine gi (aA hx) ?_;refine gi (aA hx) ?_;refine gD ?_;refine gC (fun t25=>?_) (fun t25=>?_) (st1:=(7,0));exact absurd t25 (by simp[aa]);refine ga aN ?_;exact aP J1 (i+1) hin
 refine af ?_;rfl
theorem zj(a:List Int)(ha:a.length<=281474976710656):FP 42 [.lst 1 (a.map i64),.lst 1 (a.map i64)] (bl true):=by
 refine aj func42 ?_;refine gl ?_;refine gl ?_;refine gC (fun t10=>?_) (fun t10=>?_) (st1:=(2,0));exact absurd t10 (by simp[aa]);refine aU [0,1] [] (fun(i:Nat)=>[(5,some (i64 i))]) (fun _=>[]) (fun i=>i<=a.length) (fun i=>a.length-i) 0 (zero_le _) ?_;rintro i hi K1 J1;refine gl ?_;refine gC (fun t14=>?_) (fun t14=>?_)
 ·have hin:=a5 t14;obtain⟨x,hx⟩:=aw hin;refine gi (aA hx) ?_;refine gi (aA hx) ?_;refine gD ?_;refine gC (fun t25=>?_) (fun t25=>?_) (st1:=(7,0));exact absurd t25 (by simp[aa]);refine ga aN ?_;exact aP J1 (i+1) hin
 refine af ?_;rfl
theorem Fn(x:Rt)(hx:x.ok):FP 314 [x.av,x.av] (bl true):=by
 have h1:x.num.length<=281474976710656:=by have:=hx.2.2.1;unfold eW at this;omega
 have h2:x.den.length<=281474976710656:=by have:=hx.2.2.2;unfold eW at this;omega
 refine aj func314 ?_;refine bR (fun _=>(FB x.num h1)) ?_;refine bR (fun h=>(FB x.den h2)) ?_;refine af ?_;simp;rfl
theorem MQ(b:Bd)(hb:b.ok):FP 224 [b.av,b.av] (bl true):=by
 have hbl:=hb.ll;refine aj func224 ?_;refine bZ ?_;refine bZ ?_;refine gC (fun t21=>?_) (fun t21=>?_) (st1:=(2,0));exact absurd t21 (by simp[aa]);refine aU [2,3] [2,3] (fun(i:Nat)=>[(5,some (i64 i))]) (fun _=>[]) (fun i=>i<=b.pts.length) (fun i=>b.pts.length-i) 0 (zero_le _) ?_;rintro i hi K1 J1;refine gl ?_;refine gC (fun t26=>?_) (fun t26=>?_)
 ·have hin:=a5 t26;obtain⟨m,hm⟩:=aw hin;have hmo:=hb.pts m (mem_of_getElem? hm);refine gi (aA hm) ?_;refine gi (aA hm) ?_;refine gD ?_;refine bR (fun _=>(Fn m.x hmo.x)) ?_;refine bR (fun _=>(Fn m.y hmo.y)) ?_;refine gC (fun t59=>?_) (fun t59=>?_) (st1:=(8,0));exact absurd t59 (by simp);refine ga aN ?_;exact aP J1 (i+1) hin
 refine af ?_;rfl
theorem Jm(l l2:Li)(hl:l.ok)(e:l=l2):FP 110 [l.av,l2.av] (bl true):=by
 have hlb:=hl.lb;have hlj:=hl.lj;have hld:=hl.ld;refine aj func110 ?_;refine bZ ?_;refine bZ ?_;refine bZ ?_;refine bZ ?_;refine bZ ?_;refine bZ ?_;refine gC (fun t39=>?_) (fun t39=>?_) (st1:=(2,0));exact absurd t39 (by subst e;simp[aa]);subst e;refine aU [2,3] [2,3] (fun(i:Nat)=>[(5,some (i64 i))]) (fun _=>[]) (fun i=>i<=l.bo.length) (fun i=>l.bo.length-i) 0 (zero_le _) ?_;rintro i hi K1 J1;refine gl ?_;refine gC (fun t44=>?_) (fun t44=>?_)
 ·have hin:=a5 t44;obtain⟨b,hb⟩:=aw hin;refine gi (aA hb) ?_;refine gi (aA hb) ?_;refine gc (MQ b (hl.bo b (mem_of_getElem? hb))) ?_;refine gD ?_;refine gC (fun t58=>?_) (fun t58=>?_) (st1:=(7,0));cases t58;refine ga aN ?_;exact aP J1 (i+1) hin
 refine aU [2,3] [2,3] (fun(i:Nat)=>[(6,some (i64 i))]) (fun _=>[]) (fun i=>i<=l.jo.length) (fun i=>l.jo.length-i) 0 (zero_le _) ?_;rintro i hk K2 J2;refine gl ?_;refine gC (fun t63=>?_) (fun t63=>?_)
 ·have hkn:=a5 t63;obtain⟨j,hj⟩:=aw hkn;refine gi (aA hj) ?_;refine gi (aA hj) ?_;refine gs (IB (cs:=j.vs) (ks:=[2,1,1,1,1,1,1]) (.tmp rfl) (.tmp rfl) rfl (by kernel_rfl) rfl) ?_;refine gD ?_;refine gC (fun t76=>?_) (fun t76=>?_) (st1:=(12,0));cases t76;refine ga aN ?_;exact aP J2 (i+1) hkn
 refine aU [2,3] [2,3] (fun(i:Nat)=>[(7,some (i64 i))]) (fun _=>[]) (fun i=>i<=l.dv.length) (fun i=>l.dv.length-i) 0 (zero_le _) ?_;rintro i hq K3 J3;refine gl ?_;refine gC (fun t81=>?_) (fun t81=>?_)
 ·have hqn:=a5 t81;obtain⟨d,hd⟩:=aw hqn;refine gi (aA hd) ?_;refine gi (aA hd) ?_;refine gs (IB (cs:=d.vs) (ks:=[2,1]) (.tmp rfl) (.tmp rfl) rfl (by kernel_rfl) rfl) ?_;refine gD ?_;refine gC (fun t94=>?_) (fun t94=>?_) (st1:=(17,0));cases t94;refine ga aN ?_;exact aP J3 (i+1) hqn
 refine af ?_;rfl
theorem QI(l:Li)(hl:l.ok):FP 110 [l.av,l.av] (bl true):=Jm l l hl rfl
theorem z8{l:Li}{xs:List Tn}(h:iO l xs=true)(hxw:∀x∈xs,x.t.wok):ib l=true/\xs.length<=20/\∀x∈xs,x.t.ok:=by
 unfold iO at h;simp only[and_eq_true,decide_eq_true_eq]at h;refine⟨h.1.1,h.1.2,fun x hx=>?_⟩;have h9:=List.all_eq_true.1 h.2.1 x hx;unfold mh at h9;rw[decide_eq_true_eq]at h9;exact(hxw x hx).ok h9.1 h9.2 oz
theorem PW{p:Bool}(h:cond (!true) true (!p)=false):p=true:=by cases p <;> simp_all
theorem Bw{F:Int->Bool}{sg:Bool}{f:Sv->List Aq×Nat}{b:Aq}:∀{S:List Sv},b∈(ez F sg f S).1->∃s∈S,F s.mode=true/\b∈(f s).1
 |[],h=>by cases h
 |s::S,h=>by
  rw[mo]at h;split at h
  ·obtain⟨x,hx,h2⟩:=Bw h;exact⟨x,mem_cons_of_mem _ hx,h2⟩
  ·rename_i hF;have hF:F s.mode = true:=by simpa using hF
   split at h
   ·exact⟨s,mem_cons_self,hF,h⟩
   ·split at h
    ·exact⟨s,mem_cons_self,hF,h⟩
    ·rcases List.mem_append.1 h with h |h
     ·exact⟨s,mem_cons_self,hF,h⟩
     ·obtain⟨x,hx,h2⟩:=Bw h;exact⟨x,mem_cons_of_mem _ hx,h2⟩
open Lean.Grind (CommRing)
structure Nxt(l:Li)(kw:List Bool)(g:Gr):Prop where
  b:∀x∈g.bo,kn kw x=false
  j:∀z∈g.jo,∀j,l.jo[z.toNat]?=some j->(j.a∈g.bo\/kn kw j.a=true)/\(j.b∈g.bo\/kn kw j.b=true)
theorem rH{l:Li}{kind b:Int}{kw:List Bool}{bs:List Int}(hb:b∈bs)(h:0<=jointI l kind b kw){j:Jt}(hj:l.jo[(jointI l kind b kw).toNat]?=some j) :
  (j.a∈bs\/kn kw j.a=true)/\(j.b∈bs\/kn kw j.b=true):=by
 obtain⟨i,j',e,h1,_,h2⟩:=uY h;rw[e,toNat_natCast,h1]at hj;cases hj;rcases h2 with⟨e1,e2⟩ |⟨e1,e2⟩
 ·exact⟨.inl (e1▸hb),.inr e2⟩
 ·exact⟨.inr e2,.inl (e1▸hb)⟩
theorem Km{l:Li}(hl:aD l=0){kw:List Bool}{g:Gr}(h:nextG l kw=some g):Nxt l kw g:=by
 unfold nextG at h;cases h1:driverG l kw with
 |some g' =>
  rw[h1]at h;cases h;unfold driverG at h1;rw[map_eq_some_iff]at h1;obtain⟨i,hi,rfl⟩:=h1;obtain⟨h1,h2⟩:=fp hi;unfold drHit at h2;simp only[Bool.not_eq_false',and_eq_true,decide_eq_true_eq,Bool.not_eq_true']at h2;refine⟨wn h2.1,fun z hz j hj=>?_⟩;rw[List.mem_singleton.1 hz]at hj;exact rH (by simp) h2.2 hj
 |none =>
  rw[h1]at h;cases h2:pairG l kw with
  |some g' =>
   rw[h2]at h;cases h;have hf:=CR h2;unfold pairG at h2;rw[map_eq_some_iff]at h2;obtain⟨i,hi,h3⟩:=h2;obtain⟨_,h4⟩:=fp hi;split at h3
   ·rename_i k hk;subst h3;unfold prAt at hk;rw [map_eq_some_iff] at hk;obtain ⟨k',hk',rfl⟩:=hk;obtain ⟨h5,h6⟩:=fp hk';rw [show i + 1 + k' = k' + (i + 1) by omega] at h6;unfold prHit at h6;simp only [Bool.not_eq_false',and_eq_true,decide_eq_true_eq] at h6;obtain ⟨_,⟨j1,j2⟩,j3⟩:=h6;refine ⟨fun x hx=>pC (hf x hx),fun z hz j hj=>?_⟩;simp only [prG,mem_cons,not_mem_nil,or_false] at hz;rcases hz with rfl | rfl | rfl
    ·exact rH (by simp[prG]) j1 hj
    ·exact rH (by simp[prG]) j2 hj
    ·obtain⟨n,a2,e,hj2,hkd,ht⟩:=uY j3;rw[e,toNat_natCast,hj2]at hj;cases hj;obtain⟨i1,i2,_⟩:=cU hl hj2;have i1:=(cT i1).1;have i2:=(cT i2).1;rcases ht with⟨e1,e2⟩ |⟨e1,e2⟩
     ·rw[nN i2 oz oz]at e2;have e2:=of_decide_eq_true e2;exact⟨.inl (by simp[prG,e1]),.inl (by simp[prG,e2])⟩
     ·rw[nN i1 oz oz]at e2;have e2:=of_decide_eq_true e2;exact⟨.inl (by simp[prG,e2]),.inl (by simp[prG,e1])⟩
   ·rename_i hk;rw[hk]at h4;cases h4
  |none =>
   rw[h2]at h;have hf:=D9 (show singleG l kw=some g from h);have h3:singleG l kw=some g:=h;unfold singleG at h3;rw[map_eq_some_iff]at h3;obtain⟨i,hi,rfl⟩:=h3;obtain⟨_,h4⟩:=fp hi;unfold sgHit at h4;simp only[Bool.not_eq_false',and_eq_true,decide_eq_true_eq]at h4;obtain⟨_,j1,j2⟩:=h4;refine⟨fun x hx=>pC (hf x hx),fun z hz j hj=>?_⟩;simp only[sgG,mem_cons,not_mem_nil,or_false]at hz;rcases hz with rfl |rfl
   ·exact rH (by simp[sgG]) j1 hj
   ·exact rH (by simp[sgG]) j2 hj
def Bn(l:Li):List Bool->List Gr->Prop
  |_,[]=>True
  |kw,g::gs=>Nxt l kw g/\Bn l (bw kw g.bo) gs
theorem B3{l:Li}(hl:aD l=0):∀(n:Nat)(kw:List Bool)(out:List Gr),∃gs,(findFrom l n kw out).2=out++gs/\Bn l kw gs
 |0,kw,out=>⟨[],(append_nil _).symm,trivial⟩
 |n+1,kw,out=>by
  unfold findFrom;cases hg:nextG l kw with
  |none=>exact⟨[],(append_nil _).symm,trivial⟩
  |some g =>
   obtain⟨gs,e,h⟩:=B3 hl n (bw kw g.bo) (out++[g]);refine⟨g::gs,?_,Km hl hg,h⟩;show(findFrom l n (bw kw g.bo) (out++[g])).2=_;rw[e,append_assoc];rfl
def fx(l:Li)(gs:List Gr)(m:Nat):List Bool:=(gs.take m).foldl (fun k g=>bw k g.bo) (cD l.bo.length 0)
theorem IC{l:Li}:∀(gs:List Gr)(kw:List Bool),Bn l kw gs->∀(m:Nat)(g:Gr),gs[m]?=some g->Nxt l ((gs.take m).foldl (fun k g=>bw k g.bo) kw) g
 |[],kw,h,m,g,hg=>by simp at hg
 |g0::gs,kw,h,0,g,hg=>by
  rw[List.getElem?_cons_zero]at hg;cases hg;exact h.1
 |g0::gs,kw,h,m+1,g,hg=>by
  rw[List.getElem?_cons_succ]at hg;exact IC gs _ h.2 m g hg
theorem UH(l:Li)(gs:List Gr)(m:Nat):(fx l gs m).length=l.bo.length:=by
 have:∀(gs:List Gr)(k:List Bool),(gs.foldl (fun k g=>bw k g.bo) k).length=k.length:=by
  intro gs
  induction gs with
  |nil=>intro k;rfl
  |cons g gs ih=>intro k;rw[foldl_cons,ih,iW]
 unfold fx;rw[this,gS]
theorem Mx{l:Li}{gs:List Gr}{m:Nat}{g:Gr}(hg:gs[m]?=some g):fx l gs (m+1)=bw (fx l gs m) g.bo:=by
 unfold fx;rw[List.take_add_one,hg,List.foldl_append];rfl
theorem tR{l:Li}{gs:List Gr}{m:Nat}{g:Gr}(hg:gs[m]?=some g)(ok:GrOk l g){b:Int}(h0:0<=b):kn (fx l gs (m+1)) b=(g.bo.any (fun x=>decide (x=b))||kn (fx l gs m) b):=by
 rw[Mx hg,A6 h0 (fun x hx=>by rw[UH];exact ok.b x hx)]
theorem vS{l:Li}(hl:aD l=0)(hs:splitE l=0){m:Nat}{g:Gr}(hg:(splitG l)[m]?=some g):Nxt l (fx l (splitG l) m) g:=by
 obtain⟨gs,e,h⟩:=B3 hl l.bo.length (cD l.bo.length 0) []
 have e2:splitG l=gs:=by
  unfold splitG findG;rw[if_pos hs,e];rfl
 rw[e2]at hg ⊢;exact IC gs _ h m g hg
theorem CV:∀(zs:List (Int×Pq))(bs:List Pq)(b:Int),(∀z∈zs,0<=z.1/\z.1≠b)->0<=b->(zs.foldl (fun k x=>k.set x.1.toNat x.2) bs).getD b.toNat bj=bs.getD b.toNat bj
 |[],bs,b,h,h0=>rfl
 |z::zs,bs,b,h,h0=>by
  rw[foldl_cons,CV zs _ b (fun y hy=>h y (mem_cons_of_mem _ hy)) h0];obtain⟨h1,h2⟩:=h z mem_cons_self;exact jN h1 h0 (Ne.symm h2)
theorem FI{bs:List Pq}{is:List Int}{ps:List Pq}{b:Int}(h:∀x∈is,0<=x)(hb:b∉is)(h0:0<=b):(aZ bs is ps).getD b.toNat bj=bs.getD b.toNat bj :=
 CV _ _ b (fun z hz=>by
  have:=(List.of_mem_zip hz).1;exact⟨h _ this,fun e=>hb (e▸this)⟩) h0
structure WkH(l:Li)(xs:List Tn)(a:Aq):Prop where
  js:∀m g,m<a.ms.length->(splitG l)[m]?=some g->∀z∈g.jo,JH l a.ts a.bs (l.jo.getD z.toNat default)
  cs:∀b:Int,0<=b->kn (fx l (splitG l) a.ms.length) b=true->CH a.ts (a.bs.getD b.toNat bj)
  dr:∀m g,m<a.ms.length->(splitG l)[m]?=some g->g.kind=0->dE a.ts (a.bs.getD (aI g 0).toNat bj).c=qE (dM (bV g xs).half (bV g xs).t.q)/\dE a.ts (a.bs.getD (aI g 0).toNat bj).s=qE (dH (bV g xs).half (bV g xs).t.q)
  fr:a.bs.getD 0 bj=kg
theorem RF(T:LL):dE T []=0:=by rw[E.zero_def];exact iR _
theorem Pu(T:LL):dE T [1]=1:=lA _ 1
theorem Jj{T:LL}(hp:fe T):CH T kg:=by
 unfold CH kg;dsimp only;rw[Pu,RF,show(1:Et T)*1+0*0-1=0 by grind];exact(dN _ _ hp).zero
theorem SW{n:Nat}{b:Int}(h0:0<=b)(h:kn (cD n 0) b=true):b=0:=by
 unfold cD at h;rcases EQ h with h |h
 ·rw[um]at h;cases h
 ·have:(0:Int).toNat=0:=rfl;omega
theorem IA(l:Li)(xs:List Tn)(hb:0<l.bo.length):WkH l xs (eL l):=by
 have e0:(eL l).bs.getD 0 bj=kg:=lX (by rw[length_replicate];exact hb);refine⟨fun m g h=>absurd h (Nat.not_lt_zero _),fun b h0 h=>?_,fun m g h=>absurd h (Nat.not_lt_zero _),e0⟩;have:b=0:=SW h0 h;subst this;show CH (eL l).ts ((eL l).bs.getD 0 bj);rw[e0];exact Jj DC.pos
theorem uo{n e:Nat}{a:List Rat}(h:Nm n e a):a.length<=2^n:=h.nl.le
theorem Pq.ok.nq{n e:Nat}{p:Pq}(h:Pq.ok n e p):Nq n p:=⟨uo h.c,uo h.s,uo h.x,uo h.y⟩
theorem BU{ts ts' T:LL}(e:ts=ts')(h:Lf ts T):Lf ts' T:=e▸h
section
variable{l:Li}{xs:List Tn}{s g:Nat}(W:WkC l xs s g){gr:Gr}{a:Aq}(hg:(splitG l)[a.ms.length]?=some gr)
variable{j r E:Nat}(Q:QInv l j r E a)
include W hg Q
theorem WkH.step(H:WkH l xs a){sv:Sv}(hs:sv∈dt l a.as gr (bV gr xs)):WkH l xs (a.nxt gr sv):=by
 have tw:=QInv.twl W hg Q;have hq:(Lw.llq a.as.rs)=a.ts:=a.llq;obtain⟨dy,ok⟩:=W.grp hg;have N:=vS W.li W.sp hg
 have hN:∀p∈aJ a.as,Nq (Lw.llq a.as.rs).length p:=by
  intro p hp;rw[mL]at hp;rw[hq];exact(Q.bs p hp).nq
 have G:=Ka tw hN dy (fun b hb=>by
  rw[mL];have:=ok.b b hb;have:=Q.ln;omega) W.li hs
 rw[mL]at G;have L:Lf a.ts sv.ts:=BU hq G.1.lf;have js:=G.1.js;have cs:=G.1.cs;rw[mL]at js cs;have hN':∀i,Nq a.ts.length (a.bs.getD i bj):=fun i=>xB (fun p hp=>(Q.bs p hp).nq) i
 have sam:∀b:Int,0<=b->b∉gr.bo->cS a.bs (aZ a.bs gr.bo sv.ps) a.ts.length b:=fun b h0 hb=>⟨FI (fun x hx=>(ok.b x hx).1) hb h0,hN' _⟩
 have old:∀b:Int,kn (fx l (splitG l) a.ms.length) b=true->b∉gr.bo:=fun b hk hb=>by
  rw[N.b b hb]at hk;cases hk
 have hml:(a.nxt gr sv).ms.length=a.ms.length+1:=by show(a.ms++[sv.mode]).length=_;simp
 have mono:∀(k m:Nat),m+k<=a.ms.length->∀b:Int,0<=b->kn (fx l (splitG l) m) b=true->kn (fx l (splitG l) (m+k)) b=true:=by
  intro k
  induction k with
  |zero=>intro m _ b _ h;exact h
  |succ k ih =>
   intro m hm b h0 h;have h1:=ih m oz b h0 h;have hlt:m+k<(splitG l).length:=by have:=(List.getElem?_eq_some_iff.1 hg).1;omega
   obtain⟨g2,hg2⟩:=aw hlt;rw[show m+(k+1)=(m+k)+1 by omega,tR hg2 (W.grp hg2).2 h0,h1];simp
 have jn:∀{z:Int}{jt:Jt},l.jo[z.toNat]?=some jt->0<=jt.a/\0<=jt.b:=fun hj=>by
  obtain⟨i1,i2,_⟩:=cU W.li hj;have i1:=cT i1;have i2:=cT i2;omega
 have cG:∀m g2,m<a.ms.length->(splitG l)[m]?=some g2->∀b:Int,0<=b->(b∈g2.bo\/kn (fx l (splitG l) m) b=true)->b∉gr.bo:=by
  intro m g2 hm hg2 b h0 hb;refine old b ?_
  have h1:kn (fx l (splitG l) (m+1)) b=true:=by
   rw[tR hg2 (W.grp hg2).2 h0];rcases hb with hb |hb
   ·have : g2.bo.any (fun x => decide (x = b)) = true := by rw [List.any_eq_true]; exact ⟨b, hb, by simp⟩
    rw[this];rfl
   ·rw[hb];simp
  have:=mono (a.ms.length-(m+1)) (m+1) oz b h0 h1
  rwa [show m+1+(a.ms.length-(m+1))=a.ms.length by omega]at this
 refine⟨?_,?_,?_,?_⟩
 ·intro m g2 hm hg2 z hz;rw[hml]at hm;show JH l sv.ts (aZ a.bs gr.bo sv.ps) _
  by_cases e:m=a.ms.length
  ·subst e;rw[hg]at hg2;cases hg2;exact js z hz
  ·obtain⟨jt,hj⟩ := aw (l := l.jo) (i := z.toNat) (by have := (W.grp hg2).2.j z hz;omega);have hjz:l.jo[z.toNat]?=some jt:=hj;have H1:=H.js m g2 oz hg2 z hz;rw[ao hj]at H1 ⊢;have N2:=vS W.li W.sp hg2;obtain⟨na,nb⟩:=N2.j z hz jt hj;obtain⟨a0,b0⟩:=jn hjz;exact L.jh (sam _ a0 (cG m g2 oz hg2 _ a0 na)) (sam _ b0 (cG m g2 oz hg2 _ b0 nb)) H1
 ·intro b h0 hk;rw[hml,tR hg ok h0]at hk;show CH sv.ts ((aZ a.bs gr.bo sv.ps).getD b.toNat bj)
  by_cases hb:b∈gr.bo
  ·exact cs b hb
  ·have:gr.bo.any (fun x=>decide (x=b))=false:=by
    cases h:gr.bo.any (fun x=>decide (x=b))with
    |false=>rfl
    |true =>
     rw[List.any_eq_true]at h;obtain⟨x,hx,e⟩:=h;exact absurd ((of_decide_eq_true e)▸hx) hb
   rw[this,Bool.false_or]at hk;have S:=sam b h0 hb;rw[S.1];exact L.ch S.2 (H.cs b h0 hk)
 ·intro m g2 hm hg2 hk;rw[hml]at hm;show dE sv.ts ((aZ a.bs gr.bo sv.ps).getD (aI g2 0).toNat bj).c=_/\dE sv.ts ((aZ a.bs gr.bo sv.ps).getD (aI g2 0).toNat bj).s=_
  by_cases e:m=a.ms.length
  ·subst e;rw[hg]at hg2;cases hg2;exact G.2 hk
  ·obtain⟨h1,h2⟩:=H.dr m g2 oz hg2 hk
   have hb:aI g2 0∈g2.bo:=by
    have:=(W.grp hg2).1;cases this with
    |drv=>exact mem_cons_self
    |rrr=>exact absurd hk (by simp)
    |pr=>exact absurd hk (by simp)
    |rp=>exact absurd hk (by simp)
   have h0:=((W.grp hg2).2.b _ hb).1;have S:=sam _ h0 (cG m g2 oz hg2 _ h0 (.inl hb));obtain⟨n1,n2,_⟩:=S.2;rw[S.1,<- L.low _ n1,<- L.low _ n2,h1,h2,L.q,L.q];exact⟨rfl,rfl⟩
 ·show(aZ a.bs gr.bo sv.ps).getD (0:Int).toNat bj=kg
  have h0:(0:Int)∉gr.bo:=by
   refine old 0 ?_
   have hs:=mono a.ms.length 0 oz 0 oz (by
    show kn (cD l.bo.length 0) 0=true;rw[nN oz oz (by have:=(cV W.li).2.2.2;omega)];rfl)
   rwa [Nat.zero_add]at hs
  rw[(sam 0 oz h0).1];exact H.fr
end
end Go.Lw
namespace Go.Lw
theorem Gg{F:Int->Bool}{sg:Bool}{f:Sv->List Aq×Nat}{b:Aq}:∀{S:List Sv},b∈(ez F sg f S).1->∃s∈S,b∈(f s).1:=by
 intro S h;obtain⟨s,hs,_,h2⟩:=Bw h;exact⟨s,hs,h2⟩
theorem Bj{l:Li}{xs:List Tn}{s g:Nat}(W:WkC l xs s g){F:Nat->Int->Bool}{sg:Bool}:∀(n:Nat)(a:Aq),WkSt l s g n a->WkH l xs a->∀b∈(eI F sg l xs (splitG l) n a).1,WkSt l s g 0 b/\WkH l xs b
 |0,a,h,H,b,hb=>by rw[List.mem_singleton.1 hb];exact⟨h,H⟩
 |n+1,a,h,H,b,hb=>by
  obtain⟨gr,hg,_,hP,hn⟩:=h.next W;obtain⟨⟨j,r,E,y,Q,ok,hc⟩,hl⟩:=h;unfold eI at hb;rw[ao hg]at hb;split at hb
  ·cases hb
  ·obtain⟨sv,hsv,h2⟩:=Gg hb;exact Bj W n _ (hn sv hsv) (WkH.step W hg Q H hsv) b h2
structure AqFin(l:Li)(xs:List Tn)(a:Aq):Prop where
  li:aD l=0
  lx:xs.length=l.dv.length
  xo:∀x∈xs,x.err=0/\Qb 1000 x.t.q/\x.t.ok
  tw:∃r,r<=400000000/\Tw a.ts r
  two:a.ts.length<=2
  bs:∀p∈a.bs,Pq.ok a.ts.length 3200000000 p
  ln:a.bs.length=l.bo.length
  lm:a.ms.length<=100
  js:∀j∈l.jo,JH l a.ts a.bs j
  cs:∀i,i<l.bo.length->CH a.ts (a.bs.getD i bj)
  dr:∀i d,l.dv[i]?=some d->dE a.ts (a.bs.getD d.body.toNat bj).c=qE (dM (xs.getD i dQ).half (xs.getD i dQ).t.q)/\dE a.ts (a.bs.getD d.body.toNat bj).s=qE (dH (xs.getD i dQ).half (xs.getD i dQ).t.q)
  fr:a.bs.getD 0 bj=kg
theorem CE{f:Gr->List Int}:∀(gs:List Gr)(k:List Bool)(b:Int),kn (gs.foldl (fun k g=>bw k (f g)) k) b=true->kn k b=true\/∃g∈gs,∃x∈f g,x.toNat=b.toNat
 |[],k,b,h=>.inl h
 |g::gs,k,b,h=>by
  rw[foldl_cons]at h;rcases CE gs _ b h with h |⟨g',hg,x,hx,e⟩
  ·rcases yj _ h with h |⟨x,hx,e⟩
   ·exact .inl h
   ·exact .inr ⟨g,mem_cons_self,x,hx,e⟩
  ·exact .inr ⟨g',mem_cons_of_mem _ hg,x,hx,e⟩
theorem FN{k:List Bool}(h:(eD k).length=0){i:Nat}(hi:i<k.length):kn k (i:Int)=true:=by
 rw[uw]at h;unfold kn;rw[getD_eq_getElem?_getD,getElem?_eq_getElem (by omega:(i:Int).toNat<k.length)];show k[(i:Int).toNat]=true;cases hv:k[(i:Int).toNat]'oz with
 |true=>rfl
 |false =>
  exfalso;have hm:false∈k:=hv▸getElem_mem _;rw[<- List.contains_iff_mem]at hm;rw[hm]at h;cases h
theorem zf(f:Gr->List Int):∀(gs:List Gr)(k:List Bool),(gs.foldl (fun k g=>bw k (f g)) k).length=k.length
 |[],k=>rfl
 |g::gs,k=>by rw[foldl_cons,zf f gs,iW]
theorem PH{l:Li}(hs:splitE l=0):(eD (bU l)).length=0/\(eD (d6 l)).length=0/\splitG l=findG l:=by
 have h9:(eD (bU l)).length+(eD (d6 l)).length=0:=by
  unfold splitE at hs;split at hs
  ·assumption
  ·cases hs
 exact⟨by omega,by omega,by unfold splitG;rw[if_pos hs]⟩
theorem IG{l:Li}{xs:List Tn}{s g:Nat}(W:WkC l xs s g){a:Aq}(h:WkSt l s g 0 a)(H:WkH l xs a):AqFin l xs a:=by
 obtain⟨⟨j,r,E,y,Q,ok,_⟩,hl⟩:=h;obtain⟨hE,hr,hj⟩:=tZ ok;obtain⟨r1,r2,r3⟩:=PH W.sp;have h1:=Q.lv;have h4:=sM W.li;refine⟨W.li,W.ln,fun x hx=>⟨(W.ok x hx).2.1,(W.ok x hx).2.2.1,(W.ok x hx).1⟩,⟨r,hr,Q.tw⟩,by omega,fun p hp=>(Q.bs p hp).up (le_refl _) Q.tw.five hE,Q.ln,by omega,?_,?_,?_,H.fr⟩
 ·intro jt hjt;obtain ⟨i,hi⟩:=getElem?_of_mem hjt;have hil:=(List.getElem?_eq_some_iff.1 hi).1;have hlen:(d6 l).length = l.jo.length:=by unfold d6; rw [zf Gr.jo,length_replicate]
  have hk:=FN r2 (i:=i) oz;unfold d6 at hk;rcases CE (f:=Gr.jo) _ _ _ hk with h9 |⟨gr,hg,z,hz,e⟩
  ·rw[um]at h9;cases h9
  ·rw[<- r3]at hg;obtain⟨m,hm⟩:=getElem?_of_mem hg;have hml:=(List.getElem?_eq_some_iff.1 hm).1;have hJ:=H.js m gr oz hm z hz;rw[e,toNat_natCast,ao hi]at hJ;exact hJ
 ·intro i hi;have hlen:(bU l).length = l.bo.length:=by unfold bU; rw [zf Gr.bo,gS]
  have hk:=FN r1 (i:=i) oz
  have e:bU l=fx l (splitG l) a.ms.length:=by
   unfold fx bU;rw[r3]at hl ⊢;rw[take_of_length_le oz]
  rw[e]at hk;have:=H.cs i oz hk
  rwa [toNat_natCast]at this
 ·intro i d hd;obtain ⟨gr,hg,hk,hb⟩:=EA W.li W.sp d (mem_of_getElem? hd);obtain ⟨m,hm⟩:=getElem?_of_mem hg;have hml:=(List.getElem?_eq_some_iff.1 hm).1;have hD:=H.dr m gr oz hm hk;have eb:aI gr 0 = d.body:=by unfold aI; rw [hb]; rfl
  have hdy:=(W.grp hm).1
  have ed:gr.driver=(i:Int):=by
   cases hdy with
   | @drv b z dd jt x t d0 hd2 hxb =>
    have e2:x.body=d.body:=hxb.trans (by simpa using hb);rcases Nat.lt_trichotomy dd.toNat i with h9 |h9 |h9
    ·exact absurd e2 ((wB W.li hd).2 _ x h9 hd2)
    ·show dd=(i:Int);omega
    ·exact absurd e2.symm ((wB W.li hd2).2 _ d h9 hd)
   |rrr=>exact absurd hk (by simp)
   |pr=>exact absurd hk (by simp)
   |rp=>exact absurd hk (by simp)
  have et:bV gr xs=xs.getD i dQ:=by unfold bV;rw[if_pos hk,ed,toNat_natCast]
  rw[eb,et]at hD;exact hD
theorem U8{l:Li}(hl:l.ok){xs:List Tn}(hL:iO l xs=true)(hxw:∀x∈xs,x.t.wok){A:List Aq}{e:Nat}(h:g9 l xs=(A,e)):∀a∈A,AqFin l xs a:=by
 by_cases h0:cH l xs=0
 ·obtain⟨s,g,W,St⟩:=wd hL hl hxw h0;have hb:=(cV W.li).2.2.2;have hw:=Bj W (F:=eT) (sg:=false) (splitG l).length (eL l) St (IA l xs oz);unfold g9 at h;rw[if_neg (fun h=>h h0)]at h;intro a ha;split at h
  ·cases h;cases ha
  ·have e1:(kf eT false l xs).1=A:=congrArg Prod.fst h;rw[<- e1]at ha;obtain⟨h1,h2⟩:=hw a ha;exact IG W h1 h2
 ·unfold g9 at h;rw[if_pos h0]at h;cases h;intro a ha;cases ha
end Go.Lw
