/- AssembleAlls: for any linkage and any turns the law returns true and leaves its arguments as they were. No other condition. Part 8 of 8: the statement -/
import Derived.Test.YtlilpljpajeafaaGreatXg
set_option linter.unusedVariables false
open List (mem_of_getElem? mem_cons_of_mem mem_append map_cons mem_cons length_cons mem_cons_self length_append length_nil all_eq_true getElem?_map getElem?_replicate map_append length_take take_of_length_le drop_zero take_length map_nil not_mem_nil length_map map_replicate map_set)
open Nat (le_refl le_trans zero_le lt_of_le_of_lt)
open Bool (and_eq_true or_eq_true)
open Int (toNat_natCast)
open Go.Proofs.Tryz
namespace Go.Lw
open Go.Proofs
theorem Ni(d:Nat)(hd:Nat.blt d 1000=true)(k:Nat)(hk:k<=5):Con prog 366 [i64 k] [] (.ms d 3 0 (2^(k+1))) [(d,some (.row 3 ((bX k).map qA)))]:=by
 have hp:2^(k+1)<=64:=bP (b:=6) oz;have hp2:2^k<2^(k+1):=Nat.pow_lt_pow_right oz oz;have hp0:=Nat.two_pow_pos k;refine gF func366 (fun k z h=>by cases h) ?_;refine gs (fp (.const _) (.tmp rfl) oz (EE hk) rfl) ?_;refine gs (fL (.tmp rfl) T67 rfl T45 rfl rfl oz (by dsimp only;omega) rfl) ?_;refine gs (fp (.const _) (.tmp rfl) oz (k9 oz) rfl) ?_;refine gc (kP 1 oz) ?_;refine gs (bQ (n:=2^k) (.tmp rfl) (.tmp rfl) T67 rfl T45 rfl oz oz rfl) ?_;refine gs (cK (.tmp rfl) rfl (by rw[getElem?_replicate,if_pos oz]) rfl (.tmp rfl) rfl rfl T45 rfl rfl) ?_;refine gD ?_ (3,0);refine gW (Wk.of (sl:=[(3,some (.ms 6 3 0 (2^(k+1))))]) (hp:=[(6,some (.row 3 ((bX k).map qA)))]) (.cons rfl (Sub.of (congrArg (AV.ms 6 3 0) (toNat_natCast _))) .nil) (.cons rfl (ER k) .nil)) ?_;refine gR ?_;exact aA.own1 rfl hd rfl
theorem Nj(k:Nat)(hk:k<=5):FP 366 [i64 k] (nA (bX k)):=by
 have h:=Con.freeze (by rw[length_map,uk];omega) (Ni 0 rfl k hk);rw[drop_zero,take_of_length_le (by rw[length_map,uk];exact le_refl _)]at h;exact h
theorem IZ{ts:LL}{r e:Nat}(tw:Tw ts r){a:List Rat}(ha:Nm ts.length e a)(he:e<=lm ts.length)(hs:0<=T.sgn (aj ts) ts.length (ad ts.length a)) :
  FP 305 [an ts,nA a] (.tup [an (aI ts a),nA (bX ts.length),i64 0]):=by
 have h3:=tw.three;have h5:=tw.five;have hlm:=eX ts.length;have hl:=ha.nl.le;have hR:∀z,z<ts.length->(ts.map nA)[z]?=some (nA (ts.getD z [])):=fun z hz=>kq oz
 have hsg:=nN ts ts.length r tw.ok h5 tw.pos (ts.map nA) hR ts.length _ _ (le_refl _) ha.nl ha.cb (jR (le_refl ts.length) h3 tw.le he);have hqs:=tw.rb.qs tw.le;refine af func305 ?_;refine gc (Ht tw ha oz) ?_;refine gC (fun t17=>?_) (fun t17=>?_) (st1:=(3,0));cases t17;refine gc hsg ?_;refine gC (fun t23=>?_) (fun t23=>?_) (st1:=(5,0));exact absurd t23 (by simp only[aa,decide_eq_true_eq];omega);refine gl ?_;refine gC (fun t29=>?_) (fun t29=>?_) (st1:=(8,0));exact absurd t29 (by simp only[aa,beq_iff_eq];omega);refine gl ?_;refine gW (Wk.virt 900 1 rfl) ?_;refine aM [1,2,4,8,9,32,33] [2,4] (fun(i:Nat)=>[(34,some (i64 i))]) (fun i=>[(9,some (.box [.ms 900 1 0 i])),(900,some (.row 1 ((ts.take i).map nA)))]) (fun i=>i<=ts.length) (fun i=>ts.length-i) 0 (zero_le _) ?_ (h2:=(.cons rfl (BlkSub.bL (.cons (.nM _ _ _) .nil) rfl) (.k .nil)));rintro i hi K1 J1;refine gC (fun t35=>?_) (fun t35=>?_)
 ·have hin:=aT t35;obtain⟨d,hd⟩:=az hin
  have hdl:d.length<=32:=by
   have h9:=tw.len i hin;rw[aO hd]at h9;have:2^i<=32:=bP (b:=5) oz;omega
  refine gi (ay hd) ?_;refine gs (f9 T67 rfl T45 rfl rfl rfl) ?_;refine gs (lA (.tmp rfl) rfl rfl (.tmp rfl) T67 rfl T45 rfl rfl (by simp only[length_map];omega) rfl rfl) ?_;refine gs (bK (.tmp rfl) rfl (by rw[length_map,length_take];omega) (.tmp rfl) T35 rfl T67 rfl rfl (by simp only[length_cons,length_nil];omega) rfl rfl) ?_;refine gD ?_ (14,0);refine gW (Wk.of (sl:=[(1,some (nA a)),(2,some (.ptr 2 0)),(4,some (.ptr 4 0)),(8,some (i64 ts.length)),(9,some (.ptr 9 0)),(32,some (.lst 1 (ts.map nA))),(33,some (i64 ts.length)),(34,some (i64 i))]) (hp:=[(2,some (.box [.lst 1 (ts.map nA)])),(4,some (.box [nS])),(9,some (.box [.ms 44 1 0 (i+1)])),(44,some (.row 1 ((ts.take (i+1)).map nA)))]) aQ (.k (.k (.k (.cons rfl (BlkSub.of (by rw[cC hd,map_append];rfl)) .nil))))) ?_ (14,0)
  refine gW (Wk.rk (k:=44) (d:=900) rfl rfl) ?_;refine ga aH ?_;exact aG J1 (i+1) hin
 have hin:=a8 hi t35;subst hin;refine gs (fp (.const _) (.tmp rfl) oz (k9 oz) rfl) ?_;refine gc (od a (2^ts.length) hl (by have:2^ts.length<=32:=bP (b:=5) oz;omega)) ?_;refine gs (bK (.tmp rfl) rfl (by rw[length_map,length_take];omega) (.tmp rfl) T35 rfl T67 rfl rfl (by simp only[length_cons,length_nil];omega) rfl rfl) ?_;refine gD ?_ (16,0);refine gW ((Wk.freeze (k:=54) rfl).trans<|Wk.of (sl:=[(2,some (.ptr 2 0)),(4,some (.ptr 4 0)),(8,some (i64 ts.length)),(9,some (.ptr 9 0))]) (hp:=[(2,some (.box [.lst 1 (ts.map nA)])),(4,some (.box [nS])),(9,some (.box [.lst 1 ((aI ts a).map nA)]))]) aQ (.k (.k (.cons rfl (BlkSub.bL (.cons (Sub.of (by rw[bA (by simp)];unfold aI;simp)) .nil) rfl) .nil)))) ?_;refine gc (Nj ts.length oz) ?_;refine gD ?_;refine wR ?_;rfl
section
variable{ts:LL}{u k:Nat}{a b a2 b2:List Rat}{x y x2 y2:Et ts}{w v w' v' w2 v2 w3 v3:Nat}
theorem Id[c:Cy ts u k][ha:Zl ts u k a x w v][hb:Zl ts u k b y w' v'](hs:w*u+v*k+(w'*u+v'*k)<200000000000):FP 276 [an ts,nA a,nA b] (nA (sX (x-y))):=by
 obtain⟨R,tw,hk⟩:=c.ex;have h1:=o8 tw ha.nm hb.nm (by rw[c.lm];omega);rw[ha.eq,hb.eq]at h1;exact h1
theorem mx[c:Cy ts u k][hc:Zl ts u k a x w v][ha:Zl ts u k a2 x2 w2 v2][hb:Zl ts u k b2 y2 w3 v3](e:Nat)(h1:w*u+v*k<=e)(h2:w2*u+v2*k<=e)(h3:w3*u+v3*k<=e)(he:e<=100000000000) :
  FP 306 [an ts,nA a,ao a2 b2] (ao (sX (x*x2)) (sX (x*y2))):=by
 obtain⟨R,tw,hk⟩:=c.ex;have h9:=LG tw (hc.nm.mono h1) (ha.nm.mono h2) (hb.nm.mono h3) (by rw[c.lm];omega);rw[hc.eq,ha.eq,hb.eq]at h9;exact h9
theorem yH[c:Cy ts u k][ha:Zl ts u k a x w v][hb:Zl ts u k b y w' v'][ha2:Zl ts u k a2 x2 w2 v2][hb2:Zl ts u k b2 y2 w3 v3](e:Nat)(h1:w*u+v*k<=e)(h2:w'*u+v'*k<=e)(h3:w2*u+v2*k<=e)(h4:w3*u+v3*k<=e)(he:e<=100000000000) :
  FP 275 [an ts,ao a b,ao a2 b2] (ao (sX (x+x2)) (sX (y+y2))):=by
 obtain⟨R,tw,hk⟩:=c.ex;have h9:=FH tw (ha.nm.mono h1) (hb.nm.mono h2) (ha2.nm.mono h3) (hb2.nm.mono h4) (by rw[c.lm];omega);rw[ha.eq,hb.eq,ha2.eq,hb2.eq]at h9;exact h9
theorem BB[c:Cy ts u k][ha:Zl ts u k a x w v][hb:Zl ts u k b y w' v'][ha2:Zl ts u k a2 x2 w2 v2][hb2:Zl ts u k b2 y2 w3 v3](e:Nat)(h1:w*u+v*k<=e)(h2:w'*u+v'*k<=e)(h3:w2*u+v2*k<=e)(h4:w3*u+v3*k<=e)(he:e<=100000000000) :
  FP 168 [an ts,ao a b,ao a2 b2] (ao (sX (x-x2)) (sX (y-y2))):=by
 obtain⟨R,tw,hk⟩:=c.ex;have h9:=tC tw (ha.nm.mono h1) (hb.nm.mono h2) (ha2.nm.mono h3) (hb2.nm.mono h4) (by rw[c.lm];omega);rw[ha.eq,hb.eq,ha2.eq,hb2.eq]at h9;exact h9
theorem wa{j:Nat}[c:Cy ts u k][ha:Zl ts u k a x w v][hb:Zl ts u k b y w' v'](nb:Nl j b)(hj:j<=ts.length)(hj1:j<=1)(h0:ak y≠0)(hs:(w+5*w')*u+(v+5*v'+3)*k<=200000000000) :
  FP 308 [an ts,nA a,nA b] (nA (sX (x*iE y)))/\Zu u k (x*iE y) (w+5*w') (v+5*v'+3):=by
 refine⟨?_,(oK (a:=a) (b:=b) nb hj hj1 h0 hs).2⟩
 have e:(w+5*w')*u+(v+5*v'+3)*k=w*u+v*k+(5*(w'*u+v'*k)+2*k)+k:=by
  simp only[Nat.add_mul,Nat.mul_add,Nat.mul_assoc];omega
 rw[e]at hs;obtain⟨R,tw,hk⟩:=c.ex;have h2:=G3 R (w'*u+v'*k) hj1;have h3:=gK R hj;have h1:T.sgn (aj ts) ts.length (ad ts.length b)≠0:=by rw[hb.eq];exact h0
 have h9:=xY tw ha.nm hb.nm hj nb h1 (by rw[c.lm];omega) oz;rw[ha.eq,hb.eq]at h9;exact h9
theorem E9[c:Cy ts u k][hb:Zl ts u k b y w v](hs:w*u+v*k<200000000000):FP 307 [an ts,ao a b] (ao (sX (0-y)) a):=by
 haveI zn:Zl ts u k [] (0:Et ts) 0 0:=tu;have h1:=Con.sA (.cons (.refl _) (.cons (Sub.nil 3 none 0) (.cons (.refl _) .nil))) (Id (ts:=ts) (u:=u) (k:=k) (a:=[]) (b:=b) oz);refine af func307 ?_;refine gc h1 ?_;refine gD ?_;refine ae ?_;rfl
theorem Do(cs:List (List Rat×List Rat×List Rat))(hl:cs.length<=2)(hs:∀q∈cs,∃g:Int,0<=g/\FP 28 [an ts,nA q.2.2] (i64 g)) :
  FP 310 [an ts,.lst 3 (cs.map fun q=>.agg [nA q.1,nA q.2.1,nA q.2.2])] (i64 0):=by
 refine af func310 ?_;refine gl ?_;refine aM [2,7,8] [2] (fun(i:Nat)=>[(9,some (i64 i))]) (fun _=>[]) (fun i=>i<=cs.length) (fun i=>cs.length-i) 0 (zero_le _) ?_;rintro i hi K1 J1;refine gC (fun t10=>?_) (fun t10=>?_)
 ·have hin:=aT t10;obtain⟨q,hq⟩:=az hin;obtain⟨g,h0,hg⟩:=hs q (mem_of_getElem? hq);refine gi (ay hq) ?_;refine gc hg ?_;refine gC (fun t17=>?_) (fun t17=>?_) (st1:=(5,0));exact absurd t17 (by simp only[aa,decide_eq_true_eq];omega);refine ga aH ?_;exact aG J1 (i+1) hin
 refine ae ?_;rfl
def nk(m h:P2 ts)(X:Et ts):Mt :=
  if ak X<0 then⟨ts,[]⟩else if ak X=0 then⟨ts,[m.l]⟩
  else⟨aI ts (sX X),[P2.l ((aN X m.1+bN X*aN X h.1,aN X m.2+bN X*aN X h.2):P2 (aI ts (sX X))),P2.l ((aN X m.1-bN X*aN X h.1,aN X m.2-bN X*aN X h.2):P2 (aI ts (sX X)))]⟩
theorem HH{m h:P2 ts}{X:Et ts}(tw:Tw ts 64990)(hn:ts.length<=1)[c0:Ct ts 310000 65000](zX:Zu 310000 65000 X 976 989)(m1:Nm ts.length 773000000 (sX m.1))(m2:Nm ts.length 773000000 (sX m.2))(h1:Nm ts.length 773000000 (sX h.1))(h2:Nm ts.length 773000000 (sX h.2)) :
  FP 311 [an ts,ao (sX m.1) (sX m.2),ao (sX h.1) (sX h.2),nA (sX X)] (.tup [(nk m h X).av,i64 0]):=by
 have hlm:lm ts.length=200000000000:=by unfold lm;rw[if_pos oz]
 have hsg:=jH (ts:=ts) (u:=310000) (k:=65000) (a:=sX X);refine af func311 ?_;refine gc hsg ?_;refine gC (fun t17=>?_) (fun t17=>?_)
 ·have s1 : ak X < 0 := by have := bU t17; omega
  refine gR ?_;exact bH (by unfold nk;rw[if_pos s1];exact Sub.tup (.cons (Sub.agg (.cons (.refl _) (.cons (.nil _ _ _) .nil)) rfl) (.cons (.refl _) .nil)))
 have s1:¬ak X<0:=by
  have h9:=cq t17;rcases(mS (aj ts) ts.length tw.pos).cs X with e |e |e
  ·exact absurd e h9
  ·show ¬sg (aj ts) ts.length X<0;omega
  ·show ¬sg (aj ts) ts.length X<0;omega
 refine gC (fun t21=>?_) (fun t21=>?_)
 ·have s2:ak X=0:=bU t21;refine a9 ?_;unfold nk;rw[if_neg s1,if_pos s2];rfl
 have s2:¬ak X=0:=cq t21;have E:ExtP X:=nQ tw hn zX oz;have hex:=IZ (a:=sX X) tw zX.nm (by rw[hlm];decide) (by rw[show ad ts.length (sX X)=X from bp _ _];show 0<=ak X;omega);haveI cy:=E.cy;haveI zr:Zl (aI ts (sX X)) 773000000 1101400000 (bX ts.length) (bN X) 1 0:=Zl.at (oL oz) (by decide);haveI q1:Zl (aI ts (sX X)) 773000000 1101400000 (sX m.1) (aN X m.1) 1 0:=Zl.at (fF m1 oz) (by decide);haveI q2:Zl (aI ts (sX X)) 773000000 1101400000 (sX m.2) (aN X m.2) 1 0:=Zl.at (fF m2 oz) (by decide);haveI q3:Zl (aI ts (sX X)) 773000000 1101400000 (sX h.1) (aN X h.1) 1 0:=Zl.at (fF h1 oz) (by decide);haveI q4:Zl (aI ts (sX X)) 773000000 1101400000 (sX h.2) (aN X h.2) 1 0:=Zl.at (fF h2 oz) (by decide);have k1:=mx (ts:=aI ts (sX X)) (u:=773000000) (k:=1101400000) (a:=bX ts.length) (a2:=sX h.1) (b2:=sX h.2) 773000000 (by decide) (by decide) (by decide) (by decide);haveI:=zr.zu;haveI:=q1.zu;haveI:=q2.zu;haveI:=q3.zu;haveI:=q4.zu
 have k2:=yH (ts:=aI ts (sX X)) (u:=773000000) (k:=1101400000) (a:=sX m.1) (b:=sX m.2) (a2:=sX (bN X*aN X h.1)) (b2:=sX (bN X*aN X h.2)) 10000000000 (by decide) (by decide) (by decide) (by decide) (by decide);have k3:=BB (ts:=aI ts (sX X)) (u:=773000000) (k:=1101400000) (a:=sX m.1) (b:=sX m.2) (a2:=sX (bN X*aN X h.1)) (b2:=sX (bN X*aN X h.2)) 10000000000 (by decide) (by decide) (by decide) (by decide) (by decide);refine gc hex ?_;refine gC (fun t35=>?_) (fun t35=>?_) (st1:=(8,0));cases t35;refine gc k1 ?_;refine gc k2 ?_;refine gc k3 ?_;refine gD ?_;refine a9 ?_;unfold nk;rw[if_neg s1,if_neg s2];rfl
theorem Oe(p:P2 ts):d9 p 0 p=p:=by
 unfold d9;refine Prod.ext ?_ ?_
 ·show p.1+0*p.1=p.1;grind
 ·show p.2+0*p.2=p.2;grind
def Bq(p q:P2 ts)(z z2:Et ts):P2 ts:=d9 p ((qE ((1:Int):Rat)*iE (au p q+au p q))*(z+au p q-z2)) (aW q p)
theorem ML{p q:P2 ts}{z z2:Et ts}(h0:¬ak (au p q)=0):dT p q z z2=nk (Bq p q z z2) (mj p q) (cm p z q z2):=by
 unfold dT nk;rw[if_neg h0,DC,Td,Rz];rfl
theorem O2{z z2:Et ts}(tw:Tw ts 64990)(hn:ts.length<=1)[c0:Ct ts 310000 65000][i1:Zu 310000 65000 x 40 40][i2:Zu 310000 65000 y 40 40][i3:Zu 310000 65000 z 3 0][i4:Zu 310000 65000 x2 40 40][i5:Zu 310000 65000 y2 40 40][i6:Zu 310000 65000 z2 3 0](s1:0<=ak z)(s2:0<=ak z2) :
  FP 204 [an ts,.agg [nA (sX x),nA (sX y),nA (sX z)],.agg [nA (sX x2),nA (sX y2),nA (sX z2)]] (.tup [(dT (x,y) (x2,y2) z z2).av,i64 (eA (x,y) (x2,y2) z z2)]):=by
 haveI cy:Cy ts 310000 65000:=⟨c0.ex,by omega,by omega,by omega⟩
 have P:=Bo c0 i1 i2 i3 i4 i5 i6;haveI:=P.zd;haveI:=P.zX;have g1:=jH (ts:=ts) (u:=310000) (k:=65000) (a:=sX z);have g2:=jH (ts:=ts) (u:=310000) (k:=65000) (a:=sX z2)
 have hrg:=Do (ts:=ts) [(sX x,sX y,sX z),(sX x2,sX y2,sX z2)] (le_refl 2) (fun q hq=>by
  simp only[mem_cons,not_mem_nil,or_false]at hq;rcases hq with rfl |rfl
  ·exact⟨_,s1,g1⟩
  ·exact⟨_,s2,g2⟩)
 have hd:=ve (ts:=ts) (u:=310000) (k:=65000) (a:=sX x) (b:=sX y) (a2:=sX x2) (b2:=sX y2) (by decide);have sd:=jH (ts:=ts) (u:=310000) (k:=65000) (a:=sX (au (x,y) (x2,y2)));refine af func204 ?_;refine gc hrg ?_;refine gC (fun t20=>?_) (fun t20=>?_) (st1:=(3,0));cases t20;refine gc hd ?_;refine gc sd ?_;refine gC (fun t32=>?_) (fun t32=>?_)
 ·have hd0:ak (au (x,y) (x2,y2))=0:=bU t32;refine gc (TQ (ts:=ts) (u:=310000) (k:=65000) (a:=sX z) (b:=sX z2)) ?_;refine gC (fun t33=>?_) (fun t33=>?_)
  ·have h9 : ak (z - z2) ≠ 0 := by have := t33; unfold yD at this; simpa using this
   refine gR ?_;exact bH (by unfold dT eA jU ke;rw[if_pos hd0,if_pos hd0,if_pos h9,if_neg (fun h=>h9 h.1)];exact Sub.tup (.cons (Sub.agg (.cons (.refl _) (.cons (.nil _ _ _) .nil)) rfl) (.cons (.refl _) .nil)))
  have h9:ak (z-z2)=0:=by have:=t33;unfold yD at this;simpa using this
  refine gc g1 ?_;refine gC (fun t43=>?_) (fun t43=>?_)
  ·have h8:ak z=0:=bU t43;refine a9 ?_;unfold dT eA jU ke;rw[if_pos hd0,if_pos hd0,if_neg oz,if_neg oz,if_neg oz,Oe];rfl
  have h8:0<ak z:=by have:ak z≠0:=cq t43;omega
  refine gR ?_;exact bH (by unfold dT eA jU ke;rw[if_pos hd0,if_pos hd0,if_neg oz,if_pos h8,if_pos ⟨h9,h8⟩];exact Sub.tup (.cons uS (.cons (.refl _) .nil)))
 have hd0:¬ak (au (x,y) (x2,y2))=0:=cq t32;have ht0:ak (au (x,y) (x2,y2)+au (x,y) (x2,y2))≠0:=by rw[<- vt,vQ tw];exact hd0
 haveI zdd:Zu 310000 65000 (au (x,y) (x2,y2)+au (x,y) (x2,y2)) 321 328:=by have:=P.zt;rw[vt]at this;exact this
 haveI q1:Qz 310000 ((1:Int):Rat) 1:=Qz.int (c:=Cy.cx (c:=cy)) (by decide);obtain⟨ov,zh⟩:=wa (ts:=ts) (u:=310000) (k:=65000) (a:=sh 0 (((1:Int):Rat):Rat)) (b:=sX (au (x,y) (x2,y2)+au (x,y) (x2,y2))) (j:=ts.length) zdd.nm.nl (le_refl _) hn ht0 (by decide);haveI:=zh;have zw1:Zu 310000 65000 (x2-x) 80 81:=P.z1;have zw2:Zu 310000 65000 (y2-y) 80 81:=P.z2;haveI:=zw1;haveI:=zw2;haveI zk:Zu 310000 65000 ((qE ((1:Int):Rat)*iE (au (x,y) (x2,y2)+au (x,y) (x2,y2)))*(z+au (x,y) (x2,y2)-z2)) _ _:=inferInstance;have w1:=mF (ts:=ts) (u:=310000) (k:=65000) (a:=sX x2) (b:=sX y2) (a2:=sX x) (b2:=sX y);have w2:=z6 (ts:=ts) (u:=310000) (k:=65000) (a:=sX (au (x,y) (x2,y2))) (b:=sX (au (x,y) (x2,y2)));have w3:=z6 (ts:=ts) (u:=310000) (k:=65000) (a:=sX z) (b:=sX (au (x,y) (x2,y2)));have w4:=tE (ts:=ts) (u:=310000) (k:=65000) (a:=sX (z+au (x,y) (x2,y2))) (b:=sX z2);have w5:=mg (ts:=ts) (u:=310000) (k:=65000) (a:=sX (qE ((1:Int):Rat)*iE (au (x,y) (x2,y2)+au (x,y) (x2,y2)))) (b:=sX (z+au (x,y) (x2,y2)-z2));have w6:=mx (ts:=ts) (u:=310000) (k:=65000) (a:=sX ((qE ((1:Int):Rat)*iE (au (x,y) (x2,y2)+au (x,y) (x2,y2)))*(z+au (x,y) (x2,y2)-z2))) (a2:=sX (x2-x)) (b2:=sX (y2-y)) 773000000 (by decide) (by decide) (by decide) (by decide);have w7:=yH (ts:=ts) (u:=310000) (k:=65000) (a:=sX x) (b:=sX y) (a2:=sX (((qE ((1:Int):Rat)*iE (au (x,y) (x2,y2)+au (x,y) (x2,y2)))*(z+au (x,y) (x2,y2)-z2))*(x2-x))) (b2:=sX (((qE ((1:Int):Rat)*iE (au (x,y) (x2,y2)+au (x,y) (x2,y2)))*(z+au (x,y) (x2,y2)-z2))*(y2-y))) 773000000 (by decide) (by decide) (by decide) (by decide) (by decide);have w8:=E9 (ts:=ts) (u:=310000) (k:=65000) (a:=sX (x2-x)) (b:=sX (y2-y)) (by decide);haveI zn:Zu 310000 65000 (0:Et ts) 0 0:=(tu (ts:=ts) (u:=310000) (k:=65000)).zu;have w9:=mx (ts:=ts) (u:=310000) (k:=65000) (a:=sX (qE ((1:Int):Rat)*iE (au (x,y) (x2,y2)+au (x,y) (x2,y2)))) (a2:=sX (0-(y2-y))) (b2:=sX (x2-x)) 773000000 (by decide) (by decide) (by decide) (by decide);have f1:Nm ts.length 773000000 (sX (Bq (x,y) (x2,y2) z z2).1):=(inferInstance:Zu 310000 65000 (x+((qE ((1:Int):Rat)*iE (au (x,y) (x2,y2)+au (x,y) (x2,y2)))*(z+au (x,y) (x2,y2)-z2))*(x2-x)) _ _).nm.mono (by decide);have f2:Nm ts.length 773000000 (sX (Bq (x,y) (x2,y2) z z2).2):=(inferInstance:Zu 310000 65000 (y+((qE ((1:Int):Rat)*iE (au (x,y) (x2,y2)+au (x,y) (x2,y2)))*(z+au (x,y) (x2,y2)-z2))*(y2-y)) _ _).nm.mono (by decide);have f3:Nm ts.length 773000000 (sX (mj (x,y) (x2,y2)).1):=(inferInstance:Zu 310000 65000 (qE ((1:Int):Rat)*iE (au (x,y) (x2,y2)+au (x,y) (x2,y2))*(0-(y2-y))) _ _).nm.mono (by decide);have f4:Nm ts.length 773000000 (sX (mj (x,y) (x2,y2)).2):=(inferInstance:Zu 310000 65000 (qE ((1:Int):Rat)*iE (au (x,y) (x2,y2)+au (x,y) (x2,y2))*(x2-x)) _ _).nm.mono (by decide);have hmt:=HH (X:=cm (x,y) z (x2,y2) z2) tw hn P.zX f1 f2 f3 f4;have hrd:=LH (ts:=ts) (a:=sX x) (b:=sX y) (c:=sX z) (a2:=sX x2) (b2:=sX y2) (c2:=sX z2);refine gc w1 ?_;refine gc (vX 1 oz) ?_;refine gc w2 ?_;refine gc ov ?_;refine gD ?_;refine gc w3 ?_;refine gc w4 ?_;refine gc w5 ?_;refine gD ?_;refine gc w6 ?_;refine gc w7 ?_;refine gD ?_;refine gc w8 ?_;refine gc w9 ?_;refine gc hrd ?_;refine gc hmt ?_;refine gD ?_;refine a9 ?_;rw[ML hd0];unfold eA;rw[if_neg hd0];rfl
end
section
variable{ts:LL}
theorem Sx{p q c:P2 ts}{z:Et ts}{r:Nat}(tw:Tw ts r)(h0:¬ak (bu p q)=0):eI p q c z=nk (d9 p (cc p q c*iE (bu p q)) (aW q p)) (lB p q) (bc p q c z):=by
 unfold eI nk;rw[if_neg h0,Rr,P6];have hc:ak (bc p q c z)=-1\/ak (bc p q c z)=0\/ak (bc p q c z)=1:=(mS (aj ts) ts.length tw.pos).cs (bc p q c z)
 by_cases h1:ak (bc p q c z)<0
 ·rw[if_pos h1,if_pos oz]
 ·rw[if_neg h1,if_neg oz]
theorem Kw{p q c:P2 ts}{z:Et ts}(tw:Tw ts 64990)(hn:ts.length<=1)[c0:Ct ts 310000 65000](h1:Zu 310000 65000 p.1 40 40)(h2:Zu 310000 65000 p.2 40 40)(h3:Zu 310000 65000 q.1 40 40)(h4:Zu 310000 65000 q.2 40 40)(h5:Zu 310000 65000 c.1 40 40)(h6:Zu 310000 65000 c.2 40 40)(h7:Zu 310000 65000 z 3 0)(s1:0<=ak z) :
  FP 205 [an ts,.agg [nA (sX c.1),nA (sX c.2),nA (sX z)],ao (sX p.1) (sX p.2),ao (sX q.1) (sX q.2)] (.tup [(eI p q c z).av,i64 (fy p q)]):=by
 haveI cy:Cy ts 310000 65000:=⟨c0.ex,by omega,by omega,by omega⟩
 have P:=yX cy h1 h2 h3 h4 h5 h6 h7;haveI:=h1;haveI:=h2;haveI:=h3;haveI:=h4;haveI:=h5;haveI:=h6;haveI:=h7
 have g1:=jH (ts:=ts) (u:=310000) (k:=65000) (a:=sX z)
 have hrg := Do (ts := ts) [(sX c.1, sX c.2, sX z)] (by show 1 <= 2; omega) (fun q hq => by
  rw[List.mem_singleton.1 hq];exact⟨_,s1,g1⟩)
 have k1:=mF (ts:=ts) (u:=310000) (k:=65000) (a:=sX q.1) (b:=sX q.2) (a2:=sX p.1) (b2:=sX p.2);have k2:=mF (ts:=ts) (u:=310000) (k:=65000) (a:=sX c.1) (b:=sX c.2) (a2:=sX p.1) (b2:=sX p.2);haveI v1:Zu 310000 65000 (q.1-p.1) 80 81:=P.v1;haveI v2:Zu 310000 65000 (q.2-p.2) 80 81:=P.v2;haveI w1:Zu 310000 65000 (c.1-p.1) 80 81:=P.w1;haveI w2:Zu 310000 65000 (c.2-p.2) 80 81:=P.w2;have k3:=uR (ts:=ts) (u:=310000) (k:=65000) (a:=sX (q.1-p.1)) (b:=sX (q.2-p.2)) (a2:=sX (q.1-p.1)) (b2:=sX (q.2-p.2));have k4:=uR (ts:=ts) (u:=310000) (k:=65000) (a:=sX (q.1-p.1)) (b:=sX (q.2-p.2)) (a2:=sX (c.1-p.1)) (b2:=sX (c.2-p.2));have k5:=FY (ts:=ts) (u:=310000) (k:=65000) (a:=sX (q.1-p.1)) (b:=sX (q.2-p.2)) (a2:=sX (c.1-p.1)) (b2:=sX (c.2-p.2));haveI:=P.zs;haveI:=P.ze;haveI:=P.zc
 have g2:=jH (ts:=ts) (u:=310000) (k:=65000) (a:=sX (bu p q));have t1:=mg (ts:=ts) (u:=310000) (k:=65000) (a:=sX (bu p q)) (b:=sX z);have t2:=mg (ts:=ts) (u:=310000) (k:=65000) (a:=sX (jr p q c)) (b:=sX (jr p q c));have t3:=tE (ts:=ts) (u:=310000) (k:=65000) (a:=sX (bu p q*z)) (b:=sX (jr p q c*jr p q c));refine af func205 ?_;refine gc hrg ?_;refine gC (fun t22=>?_) (fun t22=>?_) (st1:=(3,0));cases t22;refine gc k1 ?_;refine gc k2 ?_;refine gD ?_;refine gc k3 ?_;refine gc g2 ?_;refine gC (fun t41=>?_) (fun t41=>?_)
 ·have hd0:ak (bu p q)=0:=bU t41;refine gR ?_;exact bH (by unfold eI fy;rw[if_pos hd0,if_pos hd0];exact Sub.tup (.cons uS (.cons (.refl _) .nil)))
 have hd0:¬ak (bu p q)=0:=cq t41;haveI q1:Qz 310000 ((1:Int):Rat) 1:=Qz.int (c:=Cy.cx (c:=cy)) (by decide);obtain⟨ov,zh⟩:=wa (ts:=ts) (u:=310000) (k:=65000) (a:=sh 0 (((1:Int):Rat):Rat)) (b:=sX (bu p q)) (j:=ts.length) P.zs.nm.nl (le_refl _) hn hd0 (by decide);obtain⟨ow,ze⟩:=wa (ts:=ts) (u:=310000) (k:=65000) (a:=sX (cc p q c)) (b:=sX (bu p q)) (j:=ts.length) P.zs.nm.nl (le_refl _) hn hd0 (by decide);haveI:=zh;haveI:=ze
 have w6:=mx (ts:=ts) (u:=310000) (k:=65000) (a:=sX (cc p q c*iE (bu p q))) (a2:=sX (q.1-p.1)) (b2:=sX (q.2-p.2)) 773000000 (by decide) (by decide) (by decide) (by decide);have w7:=yH (ts:=ts) (u:=310000) (k:=65000) (a:=sX p.1) (b:=sX p.2) (a2:=sX (cc p q c*iE (bu p q)*(q.1-p.1))) (b2:=sX (cc p q c*iE (bu p q)*(q.2-p.2))) 773000000 (by decide) (by decide) (by decide) (by decide) (by decide);have w9:=mx (ts:=ts) (u:=310000) (k:=65000) (a:=sX (qE ((1:Int):Rat)*iE (bu p q))) (a2:=sX (q.1-p.1)) (b2:=sX (q.2-p.2)) 773000000 (by decide) (by decide) (by decide) (by decide);have f1:Nm ts.length 773000000 (sX (d9 p (cc p q c*iE (bu p q)) (aW q p)).1):=(inferInstance:Zu 310000 65000 (p.1+cc p q c*iE (bu p q)*(q.1-p.1)) _ _).nm.mono (by decide);have f2:Nm ts.length 773000000 (sX (d9 p (cc p q c*iE (bu p q)) (aW q p)).2):=(inferInstance:Zu 310000 65000 (p.2+cc p q c*iE (bu p q)*(q.2-p.2)) _ _).nm.mono (by decide);have f3:Nm ts.length 773000000 (sX (lB p q).1):=(inferInstance:Zu 310000 65000 (qE ((1:Int):Rat)*iE (bu p q)*(q.1-p.1)) _ _).nm.mono (by decide);have f4:Nm ts.length 773000000 (sX (lB p q).2):=(inferInstance:Zu 310000 65000 (qE ((1:Int):Rat)*iE (bu p q)*(q.2-p.2)) _ _).nm.mono (by decide);have hmt:=HH (X:=bc p q c z) tw hn ⟨P.zX.nm.mono (by decide)⟩ f1 f2 f3 f4;refine gc k5 ?_;refine gc t1 ?_;refine gc t2 ?_;refine gc t3 ?_;refine gD ?_;refine gc k4 ?_;refine gc ow ?_;refine gc w6 ?_;refine gc w7 ?_;refine gD ?_;refine gc (vX 1 oz) ?_;refine gc ov ?_;refine gc w9 ?_;refine gc hmt ?_;refine gD ?_;refine a9 ?_;rw[Sx tw hd0];unfold fy;rw[if_neg hd0];rfl
theorem Aa(i n:Nat)(hi:i<=100):FP 207 [i64 i,i64 n] (i64 (if n=1 then 0 else 1-2*(i:Int))):=by
 refine af func207 ?_;refine gC (fun t6=>?_) (fun t6=>?_)
 ·have h1 : n = 1 := by have := bU t6; omega
  refine ae ?_;rw[if_pos h1];rfl
 have h1:¬n=1:=by have:=cq t6;omega
 refine ga (show _=2*(i:Int) by exact uJ oz) ?_;refine ga (show _=1-2*(i:Int) by exact dg oz) ?_;refine ae ?_;rw[if_neg h1];rfl
structure RbP(ts:LL)(u:Rat×Rat)(w:P2 ts)(p:Rat×Rat)(o:P2 ts):Prop where
  nn:FP 24 [an ts,qN u,qN u] (nA (sh 0 (bG u u:Rat)))
  dot:FP 24 [an ts,qN u,bM w.l] (nA (sX (qE u.1*w.1+qE u.2*w.2)))
  crs:FP 167 [an ts,qN u,bM w.l] (nA (sX (qE u.1*w.2-qE u.2*w.1)))
  d1:FP 308 [an ts,nA (sX (qE u.1*w.1+qE u.2*w.2)),nA (sh 0 (bG u u:Rat))] (nA (sX (di u w)))
  d2:FP 308 [an ts,nA (sX (qE u.1*w.2-qE u.2*w.1)),nA (sh 0 (bG u u:Rat))] (nA (sX (dj u w)))
  tn:FP 202 [an ts,nA (sX (di u w)),nA (sX (dj u w)),qN p] (ao (sX (di u w*qE p.1-dj u w*qE p.2)) (sX (dj u w*qE p.1+di u w*qE p.2)))
  sb:FP 168 [an ts,bM o.l,ao (sX (di u w*qE p.1-dj u w*qE p.2)) (sX (dj u w*qE p.1+di u w*qE p.2))] (ao (sX (sE u w p o)) (sX (td u w p o)))
theorem oV(q:Rat):sX (qE q:Et ts)=sh 0 (q:Rat):=xp _ _
theorem Vx(u v:Rat×Rat):ao (sX (qE u.1-qE v.1:Et ts)) (sX (qE u.2-qE v.2:Et ts))=qN (bj u v):=by
 have h:∀a b:Rat,(qE a-qE b:Et ts)=qE (a-b):=fun a b=>(vI a b).symm
 rw[h,h,oV,oV];rfl
theorem In{r W A K:Nat}{u p:Rat×Rat}{w o:P2 ts}(tw:Tw ts r)(h2:ts.length<=2)(hk:kB r ts.length<=K)(hu:Sm 3000 u)(hp:Sm 3000 p)(h0:bG u u≠0)
  (w1:Nm ts.length W (sX w.1)) (w2:Nm ts.length W (sX w.2)) (a1:Nm ts.length A (sX o.1)) (a2:Nm ts.length A (sX o.2)) (hW:3000<=W) (hF:4*W+10*K+A+100000<=80000000000):RbP ts u w p o:=by
 have hl:lm ts.length=200000000000:=by unfold lm;rw[if_pos h2]
 have h5:=tw.five;have hu1:=fT (ts:=ts) h5 hu.x;have hu2:=fT (ts:=ts) h5 hu.y;have hp1:=fT (ts:=ts) h5 hp.x;have hp2:=fT (ts:=ts) h5 hp.y;have hnn:=fT (ts:=ts) h5 (hu.dot hu);have hkE:eB r ts.length<=K:=hk;have ew:∀x:Et ts,ad ts.length (sX x)=x:=fun x=>bp _ _
 have c0:=xQ tw (hu1.mono (f:=W) oz) (hu2.mono oz) (hu1.mono oz) (hu2.mono oz) (by rw[hl];omega);have c1:=xQ tw (hu1.mono (f:=W) oz) (hu2.mono oz) w1 w2 (by rw[hl];omega);have c2:=CC tw (hu1.mono (f:=W) oz) (hu2.mono oz) w1 w2 (by rw[hl];omega);have n1:=Az tw hu1 hu2 w1 w2;have n2:=AG tw hu1 hu2 w1 w2;rw[fX,fX,ew,ew]at c1 c2 n1 n2;rw[fX,fX]at c0
 have ed:sh ts.length (kG ts (qE u.1:Et ts) (qE u.2:Et ts) (qE u.1:Et ts) (qE u.2:Et ts))=sh 0 (bG u u:Rat):=by
  have h:(kG ts (qE u.1:Et ts) (qE u.2:Et ts) (qE u.1:Et ts) (qE u.2:Et ts))=(qE (bG u u):Et ts):=by
   show(qE u.1*qE u.1+qE u.2*qE u.2:Et ts)=qE (u.1*u.1+u.2*u.2);rw[BH,qK,qK]
  rw[h];exact oV _
 rw[ed]at c0
 have hs:T.sgn (aj ts) ts.length (ad ts.length (sh 0 (bG u u:Rat)))≠0:=by
  rw[kS,T.sgn_ofQ];intro h9;exact h0 (lM h9)
 have nb:Nl 0 (sh 0 (bG u u:Rat)):=ek 0 _;have d1:=xY tw n1 hnn (zero_le _) nb hs (by rw[hl];omega) (by simp only[iB];omega);have d2:=xY tw n2 hnn (zero_le _) nb hs (by rw[hl];omega) (by simp only[iB];omega);have m1:=rK tw n1 hnn (zero_le _) nb hs (by rw[hl];omega) (by simp only[iB];omega);have m2:=rK tw n2 hnn (zero_le _) nb hs (by rw[hl];omega) (by simp only[iB];omega);have f1:ad ts.length (sh ts.length (kG ts (qE u.1:Et ts) (qE u.2:Et ts) w.1 w.2))=(qE u.1*w.1+qE u.2*w.2:Et ts):=bp _ _;have f2:ad ts.length (sh ts.length (nv ts (qE u.1:Et ts) (qE u.2:Et ts) w.1 w.2))=(qE u.1*w.2-qE u.2*w.1:Et ts):=bp _ _;rw[f1,fX]at d1 m1;rw[f2,fX]at d2 m2;have k1:Nm ts.length (2*W+3*K+30000) (sX (di u w)):=Nm.mono m1 (by simp only[iB];omega);have k2:Nm ts.length (2*W+3*K+30000) (sX (dj u w)):=Nm.mono m2 (by simp only[iB];omega);have c3:=Dm tw k1 k2 (hp1.mono (f:=2*W+3*K+30000) oz) (hp2.mono oz) (by rw[hl];omega);have n3:=qi tw k1 k2 hp1 hp2;have n4:=qz tw k1 k2 hp1 hp2;rw[fX,fX,ew,ew]at c3 n3 n4;have s1:=tC tw (a1.mono (f:=80000000000) oz) (a2.mono oz) (n3.mono oz) (n4.mono oz) (by rw[hl];omega);have f3:ad ts.length (sh ts.length (n6 ts (di u w) (dj u w) (qE p.1:Et ts) (qE p.2:Et ts)))=(di u w*qE p.1-dj u w*qE p.2:Et ts):=bp _ _;have f4:ad ts.length (sh ts.length (oT ts (di u w) (dj u w) (qE p.1:Et ts) (qE p.2:Et ts)))=(dj u w*qE p.1+di u w*qE p.2:Et ts):=bp _ _;rw[ew,ew,f3,f4]at s1;exact⟨c0,c1,c2,d1,d2,c3,s1⟩
theorem CT{r:Nat}{u p:Rat×Rat}{w o:P2 ts}(tw:Tw ts r)(h2:ts.length<=2)(hk:kB r ts.length<=1101400000)(hu:Sm 3000 u)(hp:Sm 3000 p)(h0:bG u u≠0)
  (w1:Nm ts.length 17000000000 (sX w.1)) (w2:Nm ts.length 17000000000 (sX w.2)) (a1:Nm ts.length 773000000 (sX o.1)) (a2:Nm ts.length 773000000 (sX o.2)):RbP ts u w p o :=
 In tw h2 hk hu hp h0 w1 w2 a1 a2 oz oz
theorem Iu{u p:Rat×Rat}{w o:P2 ts}(B:RbP ts u w p o):FP 309 [an ts,qN u,bM w.l,qN p,bM o.l] (lY u w p o).av:=by
 refine af func309 ?_;refine gc B.nn ?_;refine gc B.dot ?_;refine gc B.d1 ?_;refine gc B.crs ?_;refine gc B.d2 ?_;refine gD ?_;refine gc B.tn ?_;refine gc B.sb ?_;refine gD ?_;refine gD ?_;refine ae ?_;rfl
end
structure RHd(T:LL)(x:List Rat×List Rat)(h:Hd):Prop where
  u:FP 168 [an T,qN h.c,qN h.p] (qN (bj h.c h.p))
  w:FP 168 [an T,bM x,ao h.a.1 h.a.2] (bM (km T h x).l)
  put:FP 309 [an T,qN (bj h.c h.p),bM (km T h x).l,qN h.p,ao h.a.1 h.a.2] (l0 T x h).av
theorem BA{ts:LL}{m:Mt}(ok:MtOk ts m){x:List Rat×List Rat}(hx:x∈m.ps){p c:Rat×Rat}{o:P2 ts}(a1:Nm ts.length 773000000 (sX o.1))(a2:Nm ts.length 773000000 (sX o.2))(hp:Sm 1000 p)(hc:Sm 1000 c)
  (h0:bG (bj c p) (bj c p)≠0):RHd m.ts x ⟨p,o.l,c⟩:=by
 obtain⟨r,tw,hk⟩:=ok.tw;obtain⟨n1,n2⟩:=ok.ps x hx;obtain⟨b1,e1⟩:=ok.up _ _ a1;obtain⟨b2,e2⟩:=ok.up _ _ a2;have hl:lm m.ts.length=200000000000:=by unfold lm;rw[if_pos ok.two]
 have h5:=tw.five;have q1:=fT (ts:=m.ts) h5 hc.x;have q2:=fT (ts:=m.ts) h5 hc.y;have q3:=fT (ts:=m.ts) h5 hp.x;have q4:=fT (ts:=m.ts) h5 hp.y;have hu:=tC tw q1 q2 q3 q4 (by rw[hl];omega);rw[fX,fX,fX,fX]at hu;have hu2:FP 168 [an m.ts,qN c,qN p] (qN (bj c p)):=by rw[<- Vx (ts:=m.ts)];exact hu
 have hw:=tC tw n1 n2 (b1.mono (f:=15500000000) oz) (b2.mono oz) (by rw[hl];omega)
 have B:RbP m.ts (bj c p) (km m.ts ⟨p,o.l,c⟩ x) p (mU m.ts ⟨p,o.l,c⟩):=CT tw ok.two hk ((hc.sub hp).mono oz) (hp.mono oz) h0 ((n1.sub b1).mono oz) ((n2.sub b2).mono oz)
  (by show Nm m.ts.length 773000000 (sX (dE m.ts (sX o.1)));rw[e1];exact b1) (by show Nm m.ts.length 773000000 (sX (dE m.ts (sX o.2)));rw[e2];exact b2)
 have hpt:=Iu B
 have e:bM (mU m.ts ⟨p,o.l,c⟩).l=ao (sX o.1) (sX o.2):=by
  show ao (sX (dE m.ts (sX o.1))) (sX (dE m.ts (sX o.2)))=_;rw[e1,e2]
 rw[e]at hpt;exact⟨hu2,hw,hpt⟩
theorem Tv{l:Li}{a:As}{i k:Int}{j0 j1 j2:Jt}{T:LL}{x:List Rat×List Rat}(H0:RHd T x ⟨ah l j0 i,P2.l (am l a j0 i),ah l j2 i⟩)(H1:RHd T x ⟨ah l j1 k,P2.l (am l a j1 k),ah l j2 k⟩) :
  FP 206 [an T,.agg (wX l a i k j0 j1 j2),bM x] (.lst 4 [(l0 T x ⟨ah l j0 i,P2.l (am l a j0 i),ah l j2 i⟩).av,(l0 T x ⟨ah l j1 k,P2.l (am l a j1 k),ah l j2 k⟩).av]):=by
 refine af func206 ?_;refine gc H0.u ?_;refine gc H0.w ?_;refine gc H0.put ?_ (1,18);refine gs (P4 rfl (cJ rfl) T38 rfl T69 rfl rfl rfl rfl rfl rfl rfl rfl) ?_;refine gD ?_;refine gC (fun t28=>?_) (fun t28=>?_) (st2:=(77777,0))
 ·refine gc H1.u ?_;refine gc H1.w ?_;refine gc H1.put ?_;refine gs (lA (.tmp rfl) rfl rfl (.tmp rfl) T38 rfl T69 rfl rfl (by simp only[length_cons,length_nil];omega) rfl rfl) ?_;refine gD ?_;refine ae ?_;rfl
 cases t28
theorem JF{l:Li}{a:As}{i:Int}{j0 j:Jt}{T:LL}{x:List Rat×List Rat}(H0:RHd T x ⟨ah l j0 i,P2.l (am l a j0 i),ax l i j.point⟩) :
  FP 206 [an T,.agg (xb l a i j0 j),bM x] (.lst 4 [(l0 T x ⟨ah l j0 i,P2.l (am l a j0 i),ax l i j.point⟩).av]):=by
 refine af func206 ?_;refine gc H0.u ?_;refine gc H0.w ?_;refine gc H0.put ?_;refine gD ?_;refine gC (fun t28=>?_) (fun t28=>?_) (st1:=(3,0));cases t28;refine ae ?_;rfl
section
variable{T:LL}
abbrev sS(T:LL)(R:Rp)(q:List Rat):Et T:=dE T q*dE T R.w.1-dE T R.h*(0-dE T R.w.2)
abbrev tk(T:LL)(R:Rp)(q:List Rat):Et T:=dE T q*dE T R.w.2-dE T R.h*dE T R.w.1
structure RRq(T:LL)(R:Rp)(q:List Rat):Prop where
  c1:FP 306 [an T,nA q,ao R.w.1 R.w.2] (ao (sX (dE T q*dE T R.w.1)) (sX (dE T q*dE T R.w.2)))
  qt:FP 307 [an T,ao R.w.1 R.w.2] (ao (sX (0-dE T R.w.2)) R.w.1)
  c2:FP 306 [an T,nA R.h,ao (sX (0-dE T R.w.2)) R.w.1] (ao (sX (dE T R.h*(0-dE T R.w.2))) (sX (dE T R.h*dE T R.w.1)))
  sb:FP 168 [an T,ao (sX (dE T q*dE T R.w.1)) (sX (dE T q*dE T R.w.2)),ao (sX (dE T R.h*(0-dE T R.w.2))) (sX (dE T R.h*dE T R.w.1))] (ao (sX (sS T R q)) (sX (tk T R q)))
  ov:FP 308 [an T,nA (sh 0 (((1:Int):Rat):Rat)),nA R.d] (nA (sX (qE ((1:Int):Rat)*iE (dE T R.d))))
  c3:FP 306 [an T,nA (sX (qE ((1:Int):Rat)*iE (dE T R.d))),ao (sX (sS T R q)) (sX (tk T R q))] (bM (j8 T q R.h R.d R.w).l)
  put:FP 309 [an T,qN R.v,bM (j8 T q R.h R.d R.w).l,qN R.p,ao R.a.1 R.a.2] (tM T R q).av
theorem Cu{R:Rp}{q:List Rat}{j:Nat}(cy:Cy T 773000000 1101400000)(sm:Sm 3000 R.v)(sp:Sm 3000 R.p)(h0:bG R.v R.v≠0)(nq:Nm T.length 773000000 q)(nh:Nm T.length 773000000 R.h)(nd:Nm T.length 773000000 R.d)
  (n1:Nm T.length 773000000 R.w.1) (n2:Nm T.length 773000000 R.w.2) (a1:Nm T.length 773000000 R.a.1) (a2:Nm T.length 773000000 R.a.2) (e1:sX (dE T R.a.1)=R.a.1) (e2:sX (dE T R.a.2)=R.a.2)
  (nj:Nl j R.d) (hj:j<=T.length) (hj1:j<=1) (hd:ak (dE T R.d)≠0):RRq T R q:=by
 obtain⟨r,tw,hk⟩:=cy.ex;haveI:=cy;haveI zq:Zl T 773000000 1101400000 q (dE T q) 1 0:=Zl.at nq (le_refl _);haveI zh:Zl T 773000000 1101400000 R.h (dE T R.h) 1 0:=Zl.at nh (le_refl _);haveI zd:Zl T 773000000 1101400000 R.d (dE T R.d) 1 0:=Zl.at nd (le_refl _);haveI z1:Zl T 773000000 1101400000 R.w.1 (dE T R.w.1) 1 0:=Zl.at n1 (le_refl _);haveI z2:Zl T 773000000 1101400000 R.w.2 (dE T R.w.2) 1 0:=Zl.at n2 (le_refl _);haveI:=zq.zu;haveI:=zh.zu;haveI:=z1.zu;haveI:=z2.zu
 haveI z0:Zu 773000000 1101400000 (0:Et T) 0 0:=(tu (ts:=T) (u:=773000000) (k:=1101400000)).zu;haveI q1:Qz 773000000 ((1:Int):Rat) 1:=Qz.int (c:=Cy.cx (c:=cy)) (by decide);haveI zo:Zl T 773000000 1101400000 (sh 0 (((1:Int):Rat):Rat)) (qE ((1:Int):Rat)) 1 0:=Cy.zq;have c1:=mx (ts:=T) (u:=773000000) (k:=1101400000) (a:=q) (a2:=R.w.1) (b2:=R.w.2) 773000000 (by decide) (by decide) (by decide) (by decide);have qt:=E9 (ts:=T) (u:=773000000) (k:=1101400000) (a:=R.w.1) (b:=R.w.2) (by decide);have c2:=mx (ts:=T) (u:=773000000) (k:=1101400000) (a:=R.h) (a2:=sX (0-dE T R.w.2)) (b2:=R.w.1) 2000000000 (by decide) (by decide) (by decide) (by decide);have sb:=BB (ts:=T) (u:=773000000) (k:=1101400000) (a:=sX (dE T q*dE T R.w.1)) (b:=sX (dE T q*dE T R.w.2)) (a2:=sX (dE T R.h*(0-dE T R.w.2))) (b2:=sX (dE T R.h*dE T R.w.1)) 10000000000 (by decide) (by decide) (by decide) (by decide) (by decide);obtain⟨ov,zv⟩:=wa (ts:=T) (u:=773000000) (k:=1101400000) (a:=sh 0 (((1:Int):Rat):Rat)) (b:=R.d) nj hj hj1 hd (by decide);haveI:=zv;have c3:=mx (ts:=T) (u:=773000000) (k:=1101400000) (a:=sX (qE ((1:Int):Rat)*iE (dE T R.d))) (a2:=sX (sS T R q)) (b2:=sX (tk T R q)) 10000000000 (by decide) (by decide) (by decide) (by decide);have m1:Nm T.length 17000000000 (sX (qE ((1:Int):Rat)*iE (dE T R.d)*sS T R q)):=(inferInstance:Zu 773000000 1101400000 (qE ((1:Int):Rat)*iE (dE T R.d)*(dE T q*dE T R.w.1-dE T R.h*(0-dE T R.w.2))) _ _).nm.mono (by decide);have m2:Nm T.length 17000000000 (sX (qE ((1:Int):Rat)*iE (dE T R.d)*tk T R q)):=(inferInstance:Zu 773000000 1101400000 (qE ((1:Int):Rat)*iE (dE T R.d)*(dE T q*dE T R.w.2-dE T R.h*dE T R.w.1)) _ _).nm.mono (by decide)
 have k1:qE ((1:Int):Rat)*iE (dE T R.d)*sS T R q=(j8 T q R.h R.d R.w).1:=by
  show qE ((1:Int):Rat)*iE (dE T R.d)*(dE T q*dE T R.w.1-dE T R.h*(0-dE T R.w.2))=(dE T q*dE T R.w.1-dE T R.h*-dE T R.w.2)*iE (dE T R.d);rw[kL];grind
 have k2:qE ((1:Int):Rat)*iE (dE T R.d)*tk T R q=(j8 T q R.h R.d R.w).2:=by
  show qE ((1:Int):Rat)*iE (dE T R.d)*(dE T q*dE T R.w.2-dE T R.h*dE T R.w.1)=(dE T q*dE T R.w.2-dE T R.h*dE T R.w.1)*iE (dE T R.d);rw[kL];grind
 rw[k1]at m1;rw[k2]at m2;rw[k1,k2]at c3;have hpt:=Iu (CT (w:=j8 T q R.h R.d R.w) (o:=(dE T R.a.1,dE T R.a.2)) tw cy.two hk sm sp h0 m1 m2 (by show Nm T.length 773000000 (sX (dE T R.a.1));rw[e1];exact a1) (by show Nm T.length 773000000 (sX (dE T R.a.2));rw[e2];exact a2))
 have e:bM (P2.l ((dE T R.a.1,dE T R.a.2):P2 T))=ao R.a.1 R.a.2:=by
  show ao (sX (dE T R.a.1)) (sX (dE T R.a.2))=_;rw[e1,e2]
 rw[e]at hpt;exact⟨c1,qt,c2,sb,ov,c3,hpt⟩
end
abbrev pi(l:Li)(a:As)(i:Int)(j0 j:Jt):List AV :=
  [i64 3,i64 i,i64 0]++(fE (am l a j0 i)++(fE (aV l a j.a j.point)++(e8 (ah l j0 i)++(ef++(ef++(ef++(e8 (ax l i j.on)++(e8 (ax l i j.to) ++
    ([nl,nl]++(e8 (fB l i j)++[nA (sh 0 (cM l i j0 j:Rat)),nA (sh 0 (iS l i j:Rat)),nA (sX (cO l a i j0 j))]))))))))))
theorem EQ(l:Li)(a:As)(i:Int)(j0 j:Jt):AV.agg (uQ l a i j0 j)=.agg (pi l a i j0 j):=by
 have e1:(kT (aW (qv (ax l i j.to)) (qv (ax l i j.on))) (aW (qv (ax l i j.on)) (qv (ah l j0 i))):Et (llq a.rs))=qE (cM l i j0 j):=by rw[jv,jv,ww];rfl
 have e2:(gM (aW (qv (ax l i j.to)) (qv (ax l i j.on))) (aW (qv (ax l i j.to)) (qv (ax l i j.on))):Et (llq a.rs))=qE (iS l i j):=by rw[jv,tL];rfl
 have e3:(aW (qv (ax l i j.to)) (qv (ax l i j.on)):Et (llq a.rs)×Et (llq a.rs))=qv (fB l i j):=by rw[jv];rfl
 unfold uQ pi;rw[e1,e2,e3,oV,oV,show fE (qv (fB l i j):Et (llq a.rs)×Et (llq a.rs))=e8 (fB l i j) by show[nA (sX (qE (fB l i j).1:Et (llq a.rs))),nA (sX (qE (fB l i j).2:Et (llq a.rs)))]=_;rw[oV,oV]];rfl
theorem LI{l:Li}{a:As}{i z0 z1:Int}{j0 j:Jt}(P:SlP 3900000 l a ⟨3,[i],[z0,z1],0⟩ 3 i z0 z1 j0 j):uH l a ⟨3,[i],[z0,z1],0⟩=aU l a i j0 j:=by
 rw[Ii P,jv,jv,tL,ww];rfl
theorem Sq{l:Li}{a:As}(D:DyR l a)(hn:(llq a.rs).length<=1){i z0 z1:Int}{j0 j:Jt}(P:SlP 3900000 l a ⟨3,[i],[z0,z1],0⟩ 3 i z0 z1 j0 j)(hj:j.b=i)(hb:Pd 3900000 a j.a) :
  FP 203 [an (llq a.rs),.agg (pi l a i j0 j)] (.tup [.lst 3 (ft l a i j0 j).1,i64 (ft l a i j0 j).2]):=by
 haveI c:=D.s.ct D.hc;obtain⟨tw,etw⟩:=bO D.s.tr D.hc;have ck:=c.k1;haveI cy:Cy (llq a.rs) 310000 65000:=⟨c.ex,c.k1,c.u3,by omega⟩
 have hlm:=cy.lm;have F:=yr D hn P hj hb;obtain⟨i1,i2,i3,i4,i5⟩:=dk D.li P.h1;obtain⟨y3,y4⟩:=hO D.hl D.li D.al D.s D.hc i1 i3 hb;haveI z3:=F.z3;haveI zX:=F.zX;haveI zl:=F.zl;haveI:=y3;haveI:=y4
 haveI y1:=F.y1;haveI y2:=F.y2;have sD:=jH (ts:=llq a.rs) (u:=310000) (k:=65000) (a:=sX (cO l a i j0 j));have sH:=jH (ts:=llq a.rs) (u:=310000) (k:=65000) (a:=sh 0 (cM l i j0 j:Rat));have sX9:=jH (ts:=llq a.rs) (u:=310000) (k:=65000) (a:=sX (aU l a i j0 j));have hrd:=NM D P hj hb;rw[LI P,EQ,etw]at hrd;have hwy:=mF (ts:=llq a.rs) (u:=310000) (k:=65000) (a:=sX (aV l a j.a j.point).1) (b:=sX (aV l a j.a j.point).2) (a2:=sX (am l a j0 i).1) (b2:=sX (am l a j0 i).2);refine af func203 ?_;refine gc sD ?_;refine gC (fun t20=>?_) (fun t20=>?_)
 ·have hd0:ak (cO l a i j0 j)=0:=bU t20;refine gc sH ?_;refine gC (fun t25=>?_) (fun t25=>?_)
  ·have hh:ak (qE (cM l i j0 j):Et (llq a.rs))=0:=bU t25;refine gR ?_;exact bH (by unfold ft;rw[if_pos ⟨hd0,hh⟩];exact Sub.tup (.cons (.nil _ _ _) (.cons (.refl _) .nil)))
  have hh:¬ak (qE (cM l i j0 j):Et (llq a.rs))=0:=cq t25;have h2:ak (aU l a i j0 j)<0:=Decidable.byContradiction fun h9=>wj tw h9 (fun h=>hh h.2) hd0
  refine gR ?_;exact bH (by unfold ft;rw[if_neg (fun h=>hh h.2),if_pos h2];exact Sub.tup (.cons (.nil _ _ _) (.cons (.refl _) .nil)))
 have hd0:ak (cO l a i j0 j)≠0:=cq t20;refine gc hrd ?_;refine gc sX9 ?_ (12,0);refine uz [2,3] [3] (fun(T:LL)(qs:LL)=>[(7,some (.lst 1 (qs.map nA)))]) (fun T _=>[(2,some (.box [.lst 1 (T.map nA)]))]) (fun T qs=>qs.length<=2/\(∀q∈qs,RRq T (dq l a i j0 j) q)/\FP 168 [an T,eN (aV l a j.a j.point),eN (am l a j0 i)] (ao (sX (d7 l a i j0 j).1) (sX (d7 l a i j0 j).2))/\ft l a i j0 j=(g9 T (dq l a i j0 j) qs qs.length,0)) ?_ ?_ 2
 ·intro K1 J1;refine gC (fun t48=>?_) (fun t48=>?_)
  ·have h2 : ak (aU l a i j0 j) < 0 := by have := bU t48; omega
   refine gR ?_;exact bH (by unfold ft;rw[if_neg (fun h=>hd0 h.1),if_pos h2];exact Sub.tup (.cons (.nil _ _ _) (.cons (.refl _) .nil)))
  have h2:¬ak (aU l a i j0 j)<0:=by
   have h9:=cq t48;have hc:ak (aU l a i j0 j)=-1\/ak (aU l a i j0 j)=0\/ak (aU l a i j0 j)=1:=(mS (aj (llq a.rs)) (llq a.rs).length tw.pos).cs (aU l a i j0 j);omega
  refine gC (fun t50=>?_) (fun t50=>?_)
  ·have h3 : ¬ 0 < ak (aU l a i j0 j) := by have := bU t50; omega
   have R0:RRq (llq a.rs) (dq l a i j0 j) []:=by
    have cs:Cy (llq a.rs) 773000000 1101400000:=⟨⟨64990,tw,by show kB 64990 (llq a.rs).length<=_;have:=vu hn;omega⟩,by omega,by omega,by omega⟩
    have nil0:Nm (llq a.rs).length 773000000 []:=⟨tw.five,.inl rfl,Cb.nil.mono oz⟩
    exact Cu (R := dq l a i j0 j) (j := (llq a.rs).length) cs F.hv F.hp F.vv nil0 (F.zl.nm.mono (by decide)) (F.z3.nm.mono (by decide)) (F.w1.nm.mono (by decide)) (F.w2.nm.mono (by decide))
     (F.y1.nm.mono (by decide)) (F.y2.nm.mono (by decide)) (rO _ _ F.y1.nm).2 (rO _ _ F.y2.nm).2 F.z3.nm.nl (le_refl _) hn (by rw[show ak (dE (llq a.rs) (dq l a i j0 j).d)=ak (cO l a i j0 j)from congrArg ak (bp _ _)];exact hd0)
   exact nB J1 (llq a.rs) ([[]]) ⟨by decide,gH R0,hwy,by unfold ft;rw[if_neg (fun h=>hd0 h.1),if_neg h2,if_neg h3];rfl⟩ (hw:=Wk.of (.cons rfl CU (.k (.k .nil))) (.k (.k .nil)))
  have h3:0<ak (aU l a i j0 j):=by
   have h9:¬ak (aU l a i j0 j)=0:=cq t50;omega
  have E:ExtP (aU l a i j0 j):=nQ tw hn F.zX oz;haveI ce:=E.cy;have zr:Nm (aI (llq a.rs) (sX (aU l a i j0 j))).length 773000000 (bX (llq a.rs).length):=(oL oz).mono (by decide);haveI zrl:Zl (aI (llq a.rs) (sX (aU l a i j0 j))) 773000000 1101400000 (bX (llq a.rs).length) (bN (aU l a i j0 j)) 1 0:=Zl.at zr (by decide);haveI:=zrl.zu;have zn:Nm (aI (llq a.rs) (sX (aU l a i j0 j))).length 773000000 (sX (-bN (aU l a i j0 j))):=(inferInstance:Zu 773000000 1101400000 (-bN (aU l a i j0 j)) 1 0).nm.mono (by decide)
  have hR:∀q,Nm (aI (llq a.rs) (sX (aU l a i j0 j))).length 773000000 q->RRq (aI (llq a.rs) (sX (aU l a i j0 j))) (dq l a i j0 j) q:=fun q nq =>
   Cu (R := dq l a i j0 j) (j := (llq a.rs).length) ce F.hv F.hp F.vv nq (fF (F.zl.nm.mono (by decide)) oz) (fF (F.z3.nm.mono (by decide)) oz) (fF (F.w1.nm.mono (by decide)) oz) (fF (F.w2.nm.mono (by decide)) oz)
    (fF (F.y1.nm.mono (by decide)) oz) (fF (F.y2.nm.mono (by decide)) oz) (my hn _ _ F.y1.nm).2 (my hn _ _ F.y2.nm).2 F.z3.nm.nl (by rw[d6];omega) hn (by rw[show ak (dE (aI (llq a.rs) (sX (aU l a i j0 j))) (dq l a i j0 j).d)=ak (cO l a i j0 j)from sV];exact hd0)
  have R1:=hR _ zr;have R2:=hR _ zn;have hex:=IZ (a:=sX (aU l a i j0 j)) tw F.zX.nm (by rw[hlm];decide) (by rw[show ad (llq a.rs).length (sX (aU l a i j0 j))=aU l a i j0 j from bp _ _];show 0<=ak (aU l a i j0 j);omega);haveI zn0:Zl (aI (llq a.rs) (sX (aU l a i j0 j))) 773000000 1101400000 [] (0:Et (aI (llq a.rs) (sX (aU l a i j0 j)))) 0 0:=tu;have hmn:=Con.sA (.cons (.refl _) (.cons (Sub.nil 3 none 0) (.cons (.refl _) .nil))) (Id (ts:=aI (llq a.rs) (sX (aU l a i j0 j))) (u:=773000000) (k:=1101400000) (a:=[]) (b:=bX (llq a.rs).length) (by decide));rw[show(0:Et (aI (llq a.rs) (sX (aU l a i j0 j))))-bN (aU l a i j0 j)=-bN (aU l a i j0 j) by grind]at hmn;haveI u1:=gG (X:=aU l a i j0 j) hn y3 (by decide);haveI u2:=gG (X:=aU l a i j0 j) hn y4 (by decide);haveI u3:=gG (X:=aU l a i j0 j) hn y1 (by decide);haveI u4:=gG (X:=aU l a i j0 j) hn y2 (by decide);have hwX:=BB (ts:=aI (llq a.rs) (sX (aU l a i j0 j))) (u:=773000000) (k:=1101400000) (a:=sX (aV l a j.a j.point).1) (b:=sX (aV l a j.a j.point).2) (a2:=sX (am l a j0 i).1) (b2:=sX (am l a j0 i).2) 773000000 (by decide) (by decide) (by decide) (by decide) (by decide);rw[<- Fu,<- Fu]at hwX;rw[show sX (aN (aU l a i j0 j) ((aV l a j.a j.point).1-(am l a j0 i).1))=sX (d7 l a i j0 j).1 from(my hn _ _ F.w1.nm).2,show sX (aN (aU l a i j0 j) ((aV l a j.a j.point).2-(am l a j0 i).2))=sX (d7 l a i j0 j).2 from(my hn _ _ F.w2.nm).2]at hwX;refine gc hex ?_;refine gC (fun t40=>?_) (fun t40=>?_) (st1:=(10,0));cases t40;refine gc hmn ?_;refine gD ?_;exact nB J1 (aI (llq a.rs) (sX (aU l a i j0 j))) ([bX (llq a.rs).length,sX (-bN (aU l a i j0 j))]) ⟨le_refl 2,jY R1 R2,hwX,by unfold ft;rw[if_neg (fun h=>hd0 h.1),if_neg h2,if_pos h3];rfl⟩
 rintro T qs ⟨hql,hq,hwT,hR⟩;refine gc hwT ?_;refine gl ?_;refine gW (Wk.virt 900 3 rfl) ?_;refine aM [2,3,7,11,59,60] [2,3,11] (fun(q:Nat)=>[(12,some (.ms 900 3 0 q)),(61,some (i64 q))]) (fun q=>[(900,some (.row 3 (g9 T (dq l a i j0 j) qs q)))]) (fun q=>q<=qs.length) (fun q=>qs.length-q) 0 (zero_le _) ?_;rintro q hqi K2 J2;refine gC (fun t62=>?_) (fun t62=>?_) (st2:=(25,0))
 ·have hin:=aT t62;obtain ⟨x,hx⟩:=az hin;have hx9:qs.getD q [] = x:=aO hx;have R:=hq x (mem_of_getElem? hx);refine gi (ay hx) ?_;refine gc R.c1 ?_;refine gc R.qt ?_;refine gc R.c2 ?_;refine gc R.sb ?_;refine gD ?_;refine gc (vX 1 oz) ?_;refine gc R.ov ?_;refine gc R.c3 ?_;refine gD ?_;refine gc R.put ?_;refine gl ?_;refine gc (Aa q qs.length oz) ?_;refine gs (bK (.tmp rfl) rfl (pq _ _ _ _).symm (.tmp rfl) T54 rfl T62 rfl rfl (by dsimp only; simp only [length_cons,length_nil]; omega) rfl rfl) ?_;refine gD ?_ (24,0);refine gW (Wk.of (sl:=[(2,some (.ptr 2 0)),(3,some (.ptr 3 0)),(7,some (.lst 1 (qs.map nA))),(11,some (.ptr 11 0)),(12,some (.ms 105 3 0 (q + 1))),(59,some (.lst 1 (qs.map nA))),(60,some (i64 qs.length)),(61,some (i64 q))]) (hp:=[(2,some (.box [.lst 1 (T.map nA)])),(3,some (.box (pi l a i j0 j))),(11,some (.box [nA (sX (d7 l a i j0 j).1),nA (sX (d7 l a i j0 j).2)])),(105,some (.row 3 (g9 T (dq l a i j0 j) qs (q + 1))))]) aQ (.k (.k (.k (.cons rfl (BlkSub.of (by rw [Gj]; unfold jT; rw [hx9]; rfl)) .nil))))) ?_ (24,0)
  refine gW (Wk.rk (k:=105) (d:=900) rfl rfl) ?_;refine ga aH ?_;exact aG J2 (q+1) hin
 have hin:=a8 hqi t62;subst hin;refine gW ((Wk.freeze (k:=900) rfl).trans<|Wk.of (sl:=[(12,some (.lst 3 (g9 T (dq l a i j0 j) qs qs.length)))]) (hp:=[]) (.cons rfl (Sub.of (by rw[bA (pq _ _ _ _).symm])) .nil) .nil) ?_;refine a9 ?_;rw[hR];rfl
theorem TM{l:Li}{k:Int}{a:As}{own:Bool}(hli:aE l=0)(hs:cA l=0)(hk:¬(k<0\/((aR l).length:Int)<=k))(hb:a.bs.length=l.bo.length)(hc:be a.rs=0){g:Gr}(hg:fM l k=g)(hgo:GrOk l g) :
  gL l k a own=dh ((List.range l.bo.length).map (mh l g a own)):=by
 rw[zx hs hk hb hc,hg,JK hli hgo]
theorem Ad{n i:Nat}(h:i<n):(List.range n)[i]?=some i:=List.getElem?_range h
theorem Ur{l:Li}{g:Gr}{a:As}{own:Bool}{i:Nat}{p:Pl}(h:decide ((i:Int)∈b7 l g own)=true)(hp:a.bs[i]?=some p):mh l g a own i=aZ a.rs p.l:=by
 unfold mh eS;rw[if_pos (of_decide_eq_true h),if_neg oz,toNat_natCast,aO hp]
theorem Th{l:Li}{g:Gr}{a:As}{own:Bool}{i:Nat}(h:decide ((i:Int)∈b7 l g own)=false):mh l g a own i=0:=if_neg (of_decide_eq_false h)
theorem Kt(l:Li)(hl:l.ok)(hli:aE l=0)(k:Int)(a:As)(al:AB a)(own:Bool):FP 200 [l.av,i64 k,a.av,bl own] (i64 (gL l k a own)):=by
 have hbl:=al.bl;have hlb:=(da hli).2.2.2.1;refine af func200 ?_;refine gc (m8 l hl hli) ?_;refine gC (fun t28=>?_) (fun t28=>?_)
 ·have h1:=dR t28;refine ae ?_;rw[K0 h1]
 have h1:=dz t28;refine bZ ?_;refine gC (fun t32=>?_) (fun t32=>?_)
 ·have h2:=yZ t32;refine ae ?_;rw[CB h1 h2];rfl
 have h2:=xE t32;refine gl ?_;refine gl ?_;refine gC (fun t41=>?_) (fun t41=>?_)
 ·have h3:=vc t41;refine ae ?_;rw[Cl h1 h2 h3];rfl
 have h3:=uX t41;refine gc (Con.sA (.cons (.refl _) (.cons (Sub.nil 1 none 0) .nil)) (DI a.rs 400000000 0 al.tr [] (fun x hx=>by cases hx) (zero_le _) (by show 0<=1000;omega))) ?_;refine gC (fun t53=>?_) (fun t53=>?_)
 ·have h4:=dR t53;rw[ym]at h4;refine ae ?_;rw[Hc h1 h2 h3 h4,ym]
 have h4:=dz t53;rw[ym]at h4;obtain⟨i,rfl,hi⟩:=xy h2;obtain⟨g,hg⟩:=az hi;obtain⟨hgd,hgo⟩:=nZ hli (mem_of_getElem? hg);have hgA:fM l (i:Nat)=g:=aO hg;have hE:=TM (own:=own) hli h1 h2 h3 h4 hgA hgo;have hgb:=hgo.lb;have hgj:=hgo.lj;have hal:=kJ l g;refine gl ?_;refine gs (fL (.tmp rfl) T218 rfl T4 rfl rfl oz (by dsimp only;omega) rfl) ?_ (12,0);refine gW (Wk.of (sl:=[(1,some (i64 i)),(3,some (bl own)),(4,some (.ptr 4 0)),(6,some (.ptr 6 0)),(9,some (.lst 4 ((aR l).map Gr.av))),(12,some (.ms 58 1 0 l.bo.length))]) (hp:=[(4,some (.box l.av.cells)),(6,some (.box a.av.cells)),(58,some (.row 1 ((dX l.bo.length []).map bl)))]) (.k (.k (.k (.k (.k (.cons rfl (Sub.of (by rw[toNat_natCast])) .nil)))))) (.k (.k (.cons rfl (BlkSub.of (by rw[N1,map_replicate];simp only[toNat_natCast];rfl)) .nil)))) ?_ (12,0)
 refine gW (Wk.rk (k:=58) (d:=900) rfl rfl) ?_;refine gi (ay hg) ?_;refine gc (Lr l hl g hgo) ?_;refine gD ?_;refine gl ?_;refine aM [1,3,6,9,68,69] [6] (fun(j:Nat)=>[(12,some (.ms 900 1 0 l.bo.length)),(70,some (i64 j))]) (fun j=>[(900,some (.row 1 ((dX l.bo.length ((cB l g).take j)).map bl)))]) (fun j=>j<=(cB l g).length) (fun j=>(cB l g).length-j) 0 (zero_le _) ?_;rintro j hj K1 J1;refine gC (fun t71=>?_) (fun t71=>?_) (st2:=(19,0))
 ·have hjn:=aT t71;obtain⟨b,hb⟩:=az hjn;have hbr:=GV hli hgo b (mem_of_getElem? hb);refine gi (ay hb) ?_;refine gC (fun t75=>?_) (fun t75=>?_)
  ·have hb0 : 0 <= b := by have := of_decide_eq_true (p := b >= 0) t75; omega
   have hst:dX l.bo.length ((cB l g).take (j+1))=(dX l.bo.length ((cB l g).take j)).set b.toNat true:=by rw[cC hb];exact U1 hb0 hbr
   have hv:=qd (n:=l.bo.length) (i:=b.toNat) oz ((cB l g).take j);refine gs (jp (.tmp rfl) (.tmp rfl) T218 rfl T4 rfl oz oz rfl) ?_;refine gs (cK (.tmp rfl) rfl (by rw[Nat.zero_add,getElem?_map,hv];rfl) rfl (.const _) rfl rfl T4 rfl rfl) ?_;refine ga aH ?_;exact aG J1 (j+1) hjn (hw:=Wk.of aQ (.cons rfl (BlkSub.of (by rw[hst];first |done |(rw[map_set,Nat.zero_add];rfl))) (.k .nil)))
  have hb0:b<0:=by have:=of_decide_eq_false (p:=b>=0) t75;omega
  have hst:dX l.bo.length ((cB l g).take (j+1))=dX l.bo.length ((cB l g).take j):=by rw[cC hb];exact QH hb0
  refine ga aH ?_;exact aG J1 (j+1) hjn (hw:=Wk.of aQ (.cons rfl (BlkSub.of (by rw[hst];first |done |(rw[map_set,Nat.zero_add];rfl))) (.k .nil)))
 have hjn:=a8 hj t71;subst hjn;refine gW (Wk.of (sl:=[(1,some (i64 i)),(3,some (bl own)),(6,some (.ptr 6 0)),(9,some (.lst 4 ((aR l).map Gr.av))),(12,some (.ms 900 1 0 l.bo.length))]) (hp:=[(6,some (.box a.av.cells)),(900,some (.row 1 ((dX l.bo.length (cB l g++(if own=true then g.bo.take 0 else[]))).map bl)))]) aQ (.k (.cons rfl (BlkSub.of (by rw[take_length];cases own <;> simp)) .nil))) ?_;refine gi (ay hg) ?_;refine gl ?_;refine aM [3,6,84,85] [6] (fun(q:Nat)=>[(12,some (.ms 900 1 0 l.bo.length)),(86,some (i64 q))]) (fun q=>[(900,some (.row 1 ((dX l.bo.length (cB l g++(if own=true then g.bo.take q else[]))).map bl)))]) (fun q=>q<=g.bo.length) (fun q=>g.bo.length-q) 0 (zero_le _) ?_;rintro q hq K2 J2;refine gC (fun t87=>?_) (fun t87=>?_) (st2:=(24,0))
 ·have hqn:=aT t87;obtain⟨b,hb⟩:=az hqn;obtain⟨hb0,hbr⟩:=hgo.b b (mem_of_getElem? hb);have hst:=K6 (n:=l.bo.length) (xs:=cB l g) (own:=own) hb hb0 hbr;have hv:=qd (n:=l.bo.length) (i:=b.toNat) oz (cB l g++(if own=true then g.bo.take q else[]));rw[show((b.toNat:Nat):Int)=b by omega]at hv;refine gi (ay hb) ?_;refine gs (jp (.tmp rfl) (.tmp rfl) T218 rfl T4 rfl oz oz rfl) ?_;refine gs (dS (.tmp rfl) rfl (by rw[Nat.zero_add,getElem?_map,hv];rfl) T4 rfl rfl rfl) ?_;refine gs (jp (.tmp rfl) (.tmp rfl) T218 rfl T4 rfl oz oz rfl) ?_;refine gs (cK (.tmp rfl) rfl (by rw[Nat.zero_add,getElem?_map,hv];rfl) rfl (.tmp rfl) rfl rfl T4 rfl rfl) ?_;refine ga aH ?_;exact aG J2 (q+1) hqn (hw:=Wk.of aQ (.cons rfl (BlkSub.of (by rw[hst,map_set,Nat.zero_add];rfl)) (.k .nil)))
 have hqn:=a8 hq t87;subst hqn;refine gW ((Wk.freeze (k:=900) rfl).trans<|Wk.of (sl:=[(6,some (.ptr 6 0)),(12,some (.lst 1 ((dX l.bo.length (b7 l g own)).map bl)))]) (hp:=[(6,some (.box a.av.cells))]) (.k (.cons rfl (Sub.of (by rw[bA (by rw[length_map,pO]),take_length];rfl)) .nil)) (.k .nil)) ?_;refine gl ?_;have hml:(dX l.bo.length (b7 l g own)).length=l.bo.length:=pO _ _;refine aM [6,101,102] [6] (fun(m:Nat)=>[(103,some (i64 m))]) (fun _=>[]) (fun m=>m<=(dX l.bo.length (b7 l g own)).length/\∀c∈(List.range l.bo.length).take m,mh l g a own c=0) (fun m=>(dX l.bo.length (b7 l g own)).length-m) 0 ⟨zero_le _,fun c hc=>by simp at hc⟩ ?_;rintro m ⟨hm,hmz⟩ K3 J3;refine gC (fun t104=>?_) (fun t104=>?_)
 ·have hmn:=aT t104;have hmn2:m < l.bo.length:=by omega
  have hv:=qd hmn2 (b7 l g own);obtain⟨p,hp⟩:=az (l:=a.bs) (i:=m) oz;refine gi (ay hv) ?_;refine gi (ay hp) ?_;refine gC (fun t113=>?_) (fun t113=>?_)
  ·have hM:=Ur t113 hp;refine gc (DI a.rs 400000000 50000000000 al.tr p.l (al.nr p (mem_of_getElem? hp)) (Dk _) (by show 4 <= 1000; omega)) ?_;refine gC (fun t127=>?_) (fun t127=>?_)
   ·have h5:=dR t127;refine ae ?_;rw[hE,AM (Ad hmn2) hmz (by rw[hM];exact h5),hM]
   have h5:=dz t127;have hz:mh l g a own m=0:=hM.trans h5;refine ga aH ?_;exact aG J3 (m+1) ⟨hmn,fun c hc=>by rw[cC (Ad hmn2)]at hc;rcases List.mem_append.1 hc with h9 |h9;exact hmz c h9;(rw[List.mem_singleton.1 h9];exact hz)⟩
  have hz:mh l g a own m=0:=Th t113;refine ga aH ?_;exact aG J3 (m+1) ⟨hmn,fun c hc=>by rw[cC (Ad hmn2)]at hc;rcases List.mem_append.1 hc with h9 |h9;exact hmz c h9;(rw[List.mem_singleton.1 h9];exact hz)⟩
 have hmn:=a8 hm t104;refine ae ?_;rw[hE,mc (fun c hc=>hmz c (by rw[hmn,hml,take_of_length_le (by rw[List.length_range];exact le_refl _)];exact hc))];rfl
theorem EC{vs:List (Rat×Rat)}(h:ez vs=true):∃v∈vs,bG v v=0:=by
 refine Decidable.byContradiction fun h9=>?_
 have h8:∀v∈vs,bG v v≠0:=fun v hv h0=>h9 ⟨v,hv,h0⟩
 unfold ez at h
 rw[iG (fun j hj=>by
  obtain⟨v,hv⟩:=az hj;rw[aO hv];simpa using h8 v (mem_of_getElem? hv))]at h
 cases h
theorem pN{ts:LL}{q:Rat}:ak (qE q:Et ts)=0↔q=0:=by
 rw[FU];exact⟨fun h=>lM h,fun h=>by rw[h];rfl⟩
theorem LK{x y:Int}(h:cond (aa .eql x 0) true (aa .eql y 0)=true):x=0\/y=0:=by
 cases h1:aa .eql x 0
 ·rw[h1]at h;exact .inr (bU h)
 ·exact .inl (bU h1)
theorem Lq{x y:Int}(h:cond (aa .eql x 0) true (aa .eql y 0)=false):x≠0/\y≠0:=by
 cases h1:aa .eql x 0
 ·rw[h1]at h;exact⟨cq h1,cq h⟩
 ·rw[h1]at h;cases h
abbrev tN(l:Li)(a:As)(i k:Int)(j0 j1 j2:Jt):List AV :=
  [i64 1,i64 i,i64 k]++(fE (am l a j0 i)++(fE (am l a j1 k)++(e8 (ah l j0 i)++(e8 (ah l j1 k)++(e8 (ah l j2 i)++(e8 (ah l j2 k)++(ef++(ef ++
    ([nA (sX (qE (bb (ah l j2 i) (ah l j0 i)):Et (llq a.rs))),nA (sX (qE (bb (ah l j2 k) (ah l j1 k)):Et (llq a.rs)))]++(ef++[nl,nl,nA (sX (au (am l a j1 k) (am l a j0 i)))]))))))))))
theorem IB(l:Li)(a:As)(i k:Int)(j0 j1 j2:Jt):AV.agg (wX l a i k j0 j1 j2)=.agg (tN l a i k j0 j1 j2):=by
 unfold wX tN;rw[Aj,Aj]
abbrev ue(l:Li)(a:As)(i:Int)(j0 j:Jt):List AV :=
  [i64 2,i64 i,i64 0]++(fE (am l a j0 i)++(ef++(e8 (ah l j0 i)++(ef++(e8 (ax l i j.point)++(ef++(fE (aV l a j.b j.on)++(fE (aV l a j.b j.to) ++
    ([nA (sX (qE (bb (ax l i j.point) (ah l j0 i)):Et (llq a.rs))),nl]++(fE (aW (aV l a j.b j.to) (aV l a j.b j.on))++[nl,nl,nl]))))))))))
theorem D5(l:Li)(a:As)(i:Int)(j0 j:Jt):AV.agg (xb l a i j0 j)=.agg (ue l a i j0 j):=by
 unfold xb ue;rw[Aj]
theorem NF{ts:LL}(c s:Et ts):di (((1:Int):Rat),(0:Rat)) ((c,s):P2 ts)=c/\dj (((1:Int):Rat),(0:Rat)) ((c,s):P2 ts)=s:=by
 have h1:bG (((1:Int):Rat),(0:Rat)) (((1:Int):Rat),(0:Rat))=((1:Int):Rat):=by decide +kernel
 unfold di dj wJ;rw[h1,kL];have h2:(iE (1:Et ts))=1:=FJ;rw[h2,P1];exact⟨by show(1*c+0*s)*1=c;grind,by show(1*s-0*c)*1=s;grind⟩
theorem RQ{E:Nat}(hE9:E<=20000000000){l:Li}{a:As}(D:DyW l a)(h3:(llq a.rs).length<=2){n m:Nat}{i:Int}{j0:Jt}(hE:FP 200 [l.av,i64 n,a.av,bl false] (i64 0))(hV:FP 201 [l.av,i64 n,a.av] (.agg (xG l a i j0)))
  (h0:l.jo[m]?=some j0) (p0:PinP E l a j0 i) {x:Tn} (hx:x.t.ok) (hq:Qb 1000 x.t.q):FP 112 [l.av,i64 n,x.av,a.av] (.tup [.lst 3 (iW l a i j0 x).1,i64 (iW l a i j0 x).2]):=by
 obtain⟨tw,etw⟩:=bO D.al.tr D.hc;have qc:=qr (half:=x.half) hq;have qs:=pV (half:=x.half) hq;have hs0:Sm 1000 (ah l j0 i):=dH D.hl D.li h0 p0.or;obtain⟨y1,y2⟩:=Jb hE9 D h3 h0 p0
 have B:RbP (llq a.rs) (((1:Int):Rat),(0:Rat)) ((qE (fu x.half x.t.q),qE (fm x.half x.t.q)):P2 (llq a.rs)) (ah l j0 i) (am l a j0 i) :=
  In (W := 10000) tw h3 (uK h3) yT (hs0.mono oz) (by decide +kernel)
   (by show Nm _ _ (sX (qE (fu x.half x.t.q):Et (llq a.rs)));rw[kf];exact(fT tw.five qc).mono oz) (by show Nm _ _ (sX (qE (fm x.half x.t.q):Et (llq a.rs)));rw[kf];exact(fT tw.five qs).mono oz) y1 y2 oz oz
 obtain⟨b1,b2⟩:=NF (qE (fu x.half x.t.q):Et (llq a.rs)) (qE (fm x.half x.t.q));have htn:=B.tn;have hsb:=B.sb;rw[b1,b2,kf,kf]at htn;rw[b1,b2]at hsb;refine af func112 ?_;refine gc hE ?_;refine gC (fun t26=>?_) (fun t26=>?_) (st1:=(3,0));cases t26;refine gc hV ?_;refine gD ?_ (5,0);refine gW (Wk.of (sl:=[(6,some (.ptr 6 0)),(11,some (.ptr 11 0)),(12,some (.ptr 12 0))]) (hp:=[(6,some (.box x.av.cells)),(11,some (.box [.lst 1 ((llq a.rs).map nA)])),(12,some (.box (xG l a i j0)))]) aQ (.k (.cons rfl (BlkSub.bL (.cons (.of (ia etw)) .nil) rfl) (.k .nil)))) ?_;refine gC (fun t55=>?_) (fun t55=>?_) (st2:=(19,0))
 ·refine gc (I5 x hx) ?_;refine gC (fun t60=>?_) (fun t60=>?_)
  ·have he:x.err≠0:=dR t60;refine gR ?_;exact bH (by unfold iW;rw[if_pos he];exact Sub.tup (.cons (.nil _ _ _) (.cons (.refl _) .nil)))
  have he:x.err=0:=dz t60
  have hv:x.t.valid=true:=by
   unfold Tn.err at he;split at he
   ·rename_i h9;exact h9.1
   ·cases he
  have et:x.av=Tn.av ⟨rt x.t.q,x.half⟩:=by rw[<- Rt.eq_rt hx hv]
  have hcs:=Nh x.half hq oz;have hsn:=QP x.half hq oz;rw[<- et]at hcs hsn;refine gc hcs ?_;refine gc (qX (qc.qs oz)) ?_;refine gc hsn ?_;refine gc (qX (qs.qs oz)) ?_;refine gD ?_;refine gc htn ?_;refine gc hsb ?_;refine gD ?_;refine gD ?_;refine gR ?_;exact bH (Sub.of (by unfold iW tI lY;rw[if_neg oz,b1,b2,kf,kf];rfl))
 cases t55
theorem LU{l:Li}{a:As}(D:DyR l a)(hn:(llq a.rs).length<=1){n:Nat}{i z0 z1:Int}{j0 j:Jt}(hE:FP 200 [l.av,i64 n,a.av,bl false] (i64 0))(hV:FP 201 [l.av,i64 n,a.av] (.agg (pi l a i j0 j)))
  (P:SlP 3900000 l a ⟨3,[i],[z0,z1],0⟩ 3 i z0 z1 j0 j) (hj:j.b=i) (hb:Pd 3900000 a j.a) (x:Tn):FP 112 [l.av,i64 n,x.av,a.av] (.tup [.lst 3 (ft l a i j0 j).1,i64 (ft l a i j0 j).2]):=by
 obtain⟨tw,etw⟩:=bO D.s.tr D.hc;refine af func112 ?_;refine gc hE ?_;refine gC (fun t26=>?_) (fun t26=>?_) (st1:=(3,0));cases t26;refine gc hV ?_;refine gD ?_ (5,0);refine gW (Wk.of (sl:=[(6,some (.ptr 6 0)),(11,some (.ptr 11 0)),(12,some (.ptr 12 0))]) (hp:=[(6,some (.box x.av.cells)),(11,some (.box [.lst 1 ((llq a.rs).map nA)])),(12,some (.box (pi l a i j0 j)))]) aQ (.k (.cons rfl (BlkSub.bL (.cons (.of (ia etw)) .nil) rfl) (.k .nil)))) ?_;refine gC (fun t55=>?_) (fun t55=>?_) (st1:=(12,0));cases t55;refine gC (fun t92=>?_) (fun t92=>?_) (st2:=(21,0))
 ·refine gc (Sq D hn P hj hb) ?_;refine a9 ?_;rfl
 cases t92
theorem Mi{l:Li}{a:As}{k:Int}{E:Nat}(hE:FP 200 [l.av,i64 k,a.av,bl false] (i64 E))(h0:E≠0){x:Tn}:FP 112 [l.av,i64 k,x.av,a.av] (.tup [.lst 3 [],i64 E]):=by
 refine af func112 ?_;refine gc hE ?_;refine gC (fun t26=>?_) (fun t26=>?_) (st2:=(77777,0))
 ·refine gR ?_;exact bH (Sub.tup (.cons (.nil _ _ _) (.cons (.refl _) .nil)))
 exact absurd (dz t26) h0
theorem UU{l:Li}{a:As}(D:DyR l a)(hn:(llq a.rs).length<=1){n:Nat}{i k z0 z1 z2:Int}{j0 j1 j2:Jt}(hE:FP 200 [l.av,i64 n,a.av,bl false] (i64 0))(hV:FP 201 [l.av,i64 n,a.av] (.agg (tN l a i k j0 j1 j2)))
  (P:RrrP 3900000 l a ⟨1,[i,k],[z0,z1,z2],0⟩ i k z0 z1 z2 j0 j1 j2) (x:Tn):FP 112 [l.av,i64 n,x.av,a.av] (.tup [.lst 3 (ka l a i k j0 j1 j2).1,i64 (ka l a i k j0 j1 j2).2]):=by
 haveI c:=D.s.ct D.hc;obtain⟨tw,etw⟩:=bO D.s.tr D.hc;have hq0:=dH D.hl D.li P.h0 P.p0.or;have hq1:=dH D.hl D.li P.h1 P.p1.or;have hq2:=dH D.hl D.li P.h2 P.t1;have hq3:=dH D.hl D.li P.h2 P.t2;obtain⟨y1,y2⟩:=gy D.hl D.li D.al D.s D.hc P.h0 P.p0;obtain⟨y3,y4⟩:=gy D.hl D.li D.al D.s D.hc P.h1 P.p1;haveI q1:=lE hq2 hq0;haveI q2:=lE hq3 hq1;haveI zu1:Zu 310000 65000 (qE (bb (ah l j2 i) (ah l j0 i)):Et (llq a.rs)) 3 0:=inferInstance;haveI zu2:Zu 310000 65000 (qE (bb (ah l j2 k) (ah l j1 k)):Et (llq a.rs)) 3 0:=inferInstance;haveI:=y1;haveI:=y2;haveI:=y3;haveI:=y4
 have g1:=jH (ts:=llq a.rs) (u:=310000) (k:=65000) (a:=sX (qE (bb (ah l j2 i) (ah l j0 i)):Et (llq a.rs)));have g2:=jH (ts:=llq a.rs) (u:=310000) (k:=65000) (a:=sX (qE (bb (ah l j2 k) (ah l j1 k)):Et (llq a.rs)));have hci:=O2 (x:=(am l a j0 i).1) (y:=(am l a j0 i).2) (x2:=(am l a j1 k).1) (y2:=(am l a j1 k).2) (z:=qE (bb (ah l j2 i) (ah l j0 i))) (z2:=qE (bb (ah l j2 k) (ah l j1 k))) tw hn (qD _ _) (qD _ _);have hmk:=fun h3=>BD (x:=(am l a j0 i).1) (y:=(am l a j0 i).2) (x2:=(am l a j1 k).1) (y2:=(am l a j1 k).2) (z:=qE (bb (ah l j2 i) (ah l j0 i))) (z2:=qE (bb (ah l j2 k) (ah l j1 k))) tw hn c y1 y2 zu1 y3 y4 zu2 h3
 have hrr:ka l a i k j0 j1 j2=if ez [bj (ah l j2 i) (ah l j0 i),bj (ah l j2 k) (ah l j1 k)]=true then([],15)else if eA ((am l a j0 i).1,(am l a j0 i).2) ((am l a j1 k).1,(am l a j1 k).2) (qE (bb (ah l j2 i) (ah l j0 i))) (qE (bb (ah l j2 k) (ah l j1 k)))≠0 then([],eA ((am l a j0 i).1,(am l a j0 i).2) ((am l a j1 k).1,(am l a j1 k).2) (qE (bb (ah l j2 i) (ah l j0 i))) (qE (bb (ah l j2 k) (ah l j1 k))))
  else(fc (dT ((am l a j0 i).1,(am l a j0 i).2) ((am l a j1 k).1,(am l a j1 k).2) (qE (bb (ah l j2 i) (ah l j0 i))) (qE (bb (ah l j2 k) (ah l j1 k)))) [⟨ah l j0 i,P2.l (am l a j0 i),ah l j2 i⟩,⟨ah l j1 k,P2.l (am l a j1 k),ah l j2 k⟩] (dT ((am l a j0 i).1,(am l a j0 i).2) ((am l a j1 k).1,(am l a j1 k).2) (qE (bb (ah l j2 i) (ah l j0 i))) (qE (bb (ah l j2 k) (ah l j1 k)))).ps.length,0):=rfl
 obtain⟨m,hm⟩:∃m,dT ((am l a j0 i).1,(am l a j0 i).2) ((am l a j1 k).1,(am l a j1 k).2) (qE (bb (ah l j2 i) (ah l j0 i))) (qE (bb (ah l j2 k) (ah l j1 k)))=m:=⟨_,rfl⟩
 obtain⟨e,he⟩:∃e,eA ((am l a j0 i).1,(am l a j0 i).2) ((am l a j1 k).1,(am l a j1 k).2) (qE (bb (ah l j2 i) (ah l j0 i))) (qE (bb (ah l j2 k) (ah l j1 k)))=e:=⟨_,rfl⟩
 rw[hm]at hci hmk hrr;rw[he]at hci hmk hrr;rw[hrr];refine af func112 ?_;refine gc hE ?_;refine gC (fun t26=>?_) (fun t26=>?_) (st1:=(3,0));cases t26;refine gc hV ?_;refine gD ?_ (5,0);refine gW (Wk.of (sl:=[(6,some (.ptr 6 0)),(11,some (.ptr 11 0)),(12,some (.ptr 12 0))]) (hp:=[(6,some (.box x.av.cells)),(11,some (.box [.lst 1 ((llq a.rs).map nA)])),(12,some (.box (tN l a i k j0 j1 j2)))]) aQ (.k (.cons rfl (BlkSub.bL (.cons (.of (ia etw)) .nil) rfl) (.k .nil)))) ?_;refine gC (fun t55=>?_) (fun t55=>?_) (st1:=(12,0));cases t55;refine gC (fun t92=>?_) (fun t92=>?_) (st1:=(20,0));cases t92;refine gC (fun t99=>?_) (fun t99=>?_) (st2:=(8,0))
 ·refine gc g1 ?_;refine bI (fun _=>g2) ?_;refine gC (fun t112=>?_) (fun t112=>?_)
  ·have hz:ez [bj (ah l j2 i) (ah l j0 i),bj (ah l j2 k) (ah l j1 k)]=true:=by
    refine Decidable.byContradiction fun h9=>?_
    obtain⟨w1,w2⟩:=vz (Bool.eq_false_iff.2 h9);rcases LK t112 with h |h
    ·exact w1 (pN.1 h)
    ·exact w2 (pN.1 h)
   refine gR ?_;exact bH (by rw[if_pos hz];exact Sub.tup (.cons (.nil _ _ _) (.cons (.refl _) .nil)))
  obtain⟨o1,o2⟩:=Lq t112;have w1:bG (bj (ah l j2 i) (ah l j0 i)) (bj (ah l j2 i) (ah l j0 i))≠0:=fun h=>o1 (pN.2 h)
  have w2:bG (bj (ah l j2 k) (ah l j1 k)) (bj (ah l j2 k) (ah l j1 k))≠0:=fun h=>o2 (pN.2 h)
  have hz:¬ez [bj (ah l j2 i) (ah l j0 i),bj (ah l j2 k) (ah l j1 k)]=true:=fun h=>by
   obtain⟨v,hv,h0⟩:=EC h;rcases List.mem_cons.1 hv with rfl |hv
   ·exact w1 h0
   ·rw[List.mem_singleton.1 hv]at h0;exact w2 h0
  rw[if_neg hz];refine gc hci ?_;refine gC (fun t129=>?_) (fun t129=>?_)
  ·have h3:e≠0:=dR t129;refine gR ?_;exact bH (by rw[if_pos h3];exact Sub.tup (.cons (.nil _ _ _) (.cons (.refl _) .nil)))
  have h3:e=0:=dz t129;have ok:=hmk h3;have hml:=ok.ln;rw[if_neg oz];refine gl ?_;refine gW (Wk.virt 900 3 rfl) ?_;refine aM [12,13,132,133] [12,13] (fun(q:Nat)=>[(18,some (.ms 900 3 0 q)),(134,some (i64 q))]) (fun q=>[(900,some (.row 3 (fc m [⟨ah l j0 i,P2.l (am l a j0 i),ah l j2 i⟩,⟨ah l j1 k,P2.l (am l a j1 k),ah l j2 k⟩] q)))]) (fun q=>q<=m.ps.length) (fun q=>m.ps.length-q) 0 (zero_le _) ?_;rintro q hqi K1 J1;refine gC (fun t135=>?_) (fun t135=>?_) (st2:=(33,0))
  ·have hin:=aT t135;obtain ⟨y,hy⟩:=az hin;have hy9:m.ps.getD q ([],[]) = y:=aO hy;have hym:=mem_of_getElem? hy;have H0:=BA ok hym (o:=am l a j0 i) (y1.nm.mono (by decide)) (y2.nm.mono (by decide)) hq0 hq2 w1;have H1:=BA ok hym (o:=am l a j1 k) (y3.nm.mono (by decide)) (y4.nm.mono (by decide)) hq1 hq3 w2;have hpl:=Tv H0 H1;rw [IB] at hpl;refine gi (ay hy) ?_;refine gc hpl ?_;refine gl ?_;refine gc (Aa q m.ps.length oz) ?_;refine gs (bK (.tmp rfl) rfl (l8 _ _ _).symm (.tmp rfl) T54 rfl T62 rfl rfl (by dsimp only; simp only [length_cons,length_nil]; omega) rfl rfl) ?_;refine gD ?_ (32,0);refine gW (Wk.of (sl:=[(12,some (.ptr 12 0)),(13,some (.ptr 13 0)),(18,some (.ms 154 3 0 (q + 1))),(132,some (.lst 2 (m.ps.map bM))),(133,some (i64 m.ps.length)),(134,some (i64 q))]) (hp:=[(12,some (.box (tN l a i k j0 j1 j2))),(13,some (.box [.lst 1 (m.ts.map nA),.lst 2 (m.ps.map bM)])),(154,some (.row 3 (fc m [⟨ah l j0 i,P2.l (am l a j0 i),ah l j2 i⟩,⟨ah l j1 k,P2.l (am l a j1 k),ah l j2 k⟩] (q + 1))))]) aQ (.k (.k (.cons rfl (BlkSub.of (by rw [Ag]; unfold jP; rw [hy9]; rfl)) .nil)))) ?_ (32,0)
   refine gW (Wk.rk (k:=154) (d:=900) rfl rfl) ?_;refine ga aH ?_;exact aG J1 (q+1) hin
  have hin:=a8 hqi t135;subst hin;refine gW ((Wk.freeze (k:=900) rfl).trans<|Wk.of (sl:=[(18,some (.lst 3 (fc m [⟨ah l j0 i,P2.l (am l a j0 i),ah l j2 i⟩,⟨ah l j1 k,P2.l (am l a j1 k),ah l j2 k⟩] m.ps.length)))]) (hp:=[]) (.cons rfl (Sub.of (by rw[bA (l8 _ _ _).symm])) .nil) .nil) ?_;refine a9 ?_;rfl
 cases t99
theorem Qf{l:Li}{a:As}(D:DyR l a)(hn:(llq a.rs).length<=1){n:Nat}{i z0 z1:Int}{j0 j:Jt}(hE:FP 200 [l.av,i64 n,a.av,bl false] (i64 0))(hV:FP 201 [l.av,i64 n,a.av] (.agg (ue l a i j0 j)))
  (P:SlP 3900000 l a ⟨2,[i],[z0,z1],0⟩ 2 i z0 z1 j0 j) (ha:j.a=i) (hb:Pd 3900000 a j.b) (x:Tn):FP 112 [l.av,i64 n,x.av,a.av] (.tup [.lst 3 (kj l a i j0 j).1,i64 (kj l a i j0 j).2]):=by
 haveI c:=D.s.ct D.hc;obtain⟨tw,etw⟩:=bO D.s.tr D.hc;obtain⟨i1,i2,i3,i4,i5⟩:=dk D.li P.h1;have hq2:Sm 1000 (ax l i j.point):=by rw[<- ha];exact gN D.hl D.li i1 i3
 have hq0:=dH D.hl D.li P.h0 P.p0.or;obtain⟨y1,y2⟩:=gy D.hl D.li D.al D.s D.hc P.h0 P.p0;obtain⟨y3,y4⟩:=hO D.hl D.li D.al D.s D.hc i2 i4 hb;obtain⟨y5,y6⟩:=hO D.hl D.li D.al D.s D.hc i2 (i5 P.hk) hb;haveI q1:=lE hq2 hq0;haveI zu1:Zu 310000 65000 (qE (bb (ax l i j.point) (ah l j0 i)):Et (llq a.rs)) 3 0:=inferInstance;have g1:=jH (ts:=llq a.rs) (u:=310000) (k:=65000) (a:=sX (qE (bb (ax l i j.point) (ah l j0 i)):Et (llq a.rs)));have hci:=Kw (c:=am l a j0 i) (p:=aV l a j.b j.on) (q:=aV l a j.b j.to) (z:=qE (bb (ax l i j.point) (ah l j0 i))) tw hn y3 y4 y5 y6 y1 y2 zu1 (qD _ _);have hmk:=fun h3=>A7 (o:=am l a j0 i) (p:=aV l a j.b j.on) (q:=aV l a j.b j.to) (z:=qE (bb (ax l i j.point) (ah l j0 i))) tw hn c y1 y2 y3 y4 y5 y6 zu1 h3
 unfold kj;obtain⟨m,hm⟩:∃m,eI (aV l a j.b j.on) (aV l a j.b j.to) (am l a j0 i) (qE (bb (ax l i j.point) (ah l j0 i)))=m:=⟨_,rfl⟩
 obtain⟨e,he⟩:∃e,fy (aV l a j.b j.on) (aV l a j.b j.to)=e:=⟨_,rfl⟩
 rw[hm]at hci hmk;rw[he]at hci hmk;rw[hm,he];refine af func112 ?_;refine gc hE ?_;refine gC (fun t26=>?_) (fun t26=>?_) (st1:=(3,0));cases t26;refine gc hV ?_;refine gD ?_ (5,0);refine gW (Wk.of (sl:=[(6,some (.ptr 6 0)),(11,some (.ptr 11 0)),(12,some (.ptr 12 0))]) (hp:=[(6,some (.box x.av.cells)),(11,some (.box [.lst 1 ((llq a.rs).map nA)])),(12,some (.box (ue l a i j0 j)))]) aQ (.k (.cons rfl (BlkSub.bL (.cons (.of (ia etw)) .nil) rfl) (.k .nil)))) ?_;refine gC (fun t55=>?_) (fun t55=>?_) (st1:=(12,0));cases t55;refine gC (fun t92=>?_) (fun t92=>?_) (st1:=(20,0));cases t92;refine gC (fun t99=>?_) (fun t99=>?_) (st1:=(22,0));cases t99;refine gc g1 ?_;refine gC (fun t40=>?_) (fun t40=>?_)
 ·have hz:ez [bj (ax l i j.point) (ah l j0 i)]=true:=by
   refine Decidable.byContradiction fun h9=>?_
   exact wg (Bool.eq_false_iff.2 h9) (pN.1 (bU t40))
  refine gR ?_;exact bH (by rw[if_pos hz];exact Sub.tup (.cons (.nil _ _ _) (.cons (.refl _) .nil)))
 have w1:bG (bj (ax l i j.point) (ah l j0 i)) (bj (ax l i j.point) (ah l j0 i))≠0:=fun h=>cq t40 (pN.2 h)
 have hz:¬ez [bj (ax l i j.point) (ah l j0 i)]=true:=fun h=>by
  obtain⟨v,hv,h0⟩:=EC h;rw[List.mem_singleton.1 hv]at h0;exact w1 h0
 rw[if_neg hz];refine gc hci ?_;refine gC (fun t129=>?_) (fun t129=>?_)
 ·have h3:e≠0:=dR t129;refine gR ?_;exact bH (by rw[if_pos h3];exact Sub.tup (.cons (.nil _ _ _) (.cons (.refl _) .nil)))
 have h3:e=0:=dz t129;have ok:=hmk h3;have hml:=ok.ln;rw[if_neg oz];refine gl ?_;refine gW (Wk.virt 900 3 rfl) ?_;refine aM [12,13,132,133] [12,13] (fun(q:Nat)=>[(18,some (.ms 900 3 0 q)),(134,some (i64 q))]) (fun q=>[(900,some (.row 3 (fc m [⟨ah l j0 i,P2.l (am l a j0 i),ax l i j.point⟩] q)))]) (fun q=>q<=m.ps.length) (fun q=>m.ps.length-q) 0 (zero_le _) ?_;rintro q hqi K1 J1;refine gC (fun t135=>?_) (fun t135=>?_) (st2:=(33,0))
 ·have hin:=aT t135;obtain ⟨y,hy⟩:=az hin;have hy9:m.ps.getD q ([],[]) = y:=aO hy;have hym:=mem_of_getElem? hy;have H0:=BA ok hym (o:=am l a j0 i) (y1.nm.mono (by decide)) (y2.nm.mono (by decide)) hq0 hq2 w1;have hpl:=JF H0;rw [D5] at hpl;refine gi (ay hy) ?_;refine gc hpl ?_;refine gl ?_;refine gc (Aa q m.ps.length oz) ?_;refine gs (bK (.tmp rfl) rfl (l8 _ _ _).symm (.tmp rfl) T54 rfl T62 rfl rfl (by dsimp only; simp only [length_cons,length_nil]; omega) rfl rfl) ?_;refine gD ?_ (32,0);refine gW (Wk.of (sl:=[(12,some (.ptr 12 0)),(13,some (.ptr 13 0)),(18,some (.ms 154 3 0 (q + 1))),(132,some (.lst 2 (m.ps.map bM))),(133,some (i64 m.ps.length)),(134,some (i64 q))]) (hp:=[(12,some (.box (ue l a i j0 j))),(13,some (.box [.lst 1 (m.ts.map nA),.lst 2 (m.ps.map bM)])),(154,some (.row 3 (fc m [⟨ah l j0 i,P2.l (am l a j0 i),ax l i j.point⟩] (q + 1))))]) aQ (.k (.k (.cons rfl (BlkSub.of (by rw [Ag]; unfold jP; rw [hy9]; rfl)) .nil)))) ?_ (32,0)
  refine gW (Wk.rk (k:=154) (d:=900) rfl rfl) ?_;refine ga aH ?_;exact aG J1 (q+1) hin
 have hin:=a8 hqi t135;subst hin;refine gW ((Wk.freeze (k:=900) rfl).trans<|Wk.of (sl:=[(18,some (.lst 3 (fc m [⟨ah l j0 i,P2.l (am l a j0 i),ax l i j.point⟩] m.ps.length)))]) (hp:=[]) (.cons rfl (Sub.of (by rw[bA (l8 _ _ _).symm])) .nil) .nil) ?_;refine a9 ?_;rfl
theorem RJ{l:Li}(hl:l.ok)(hli:aE l=0)(k:Int){x:Tn}(hx:x.t.ok)(hq:Qb 1000 x.t.q)(a:As)(al:AB a)(h3:be a.rs=0->(llq a.rs).length<=2){E:Nat}(hE9:E<=20000000000)(hs:qR E l k a false)(hR:eY l k a false=0->(fM l k).kind≠0->E=3900000/\DyS a) :
  FP 112 [l.av,i64 k,x.av,a.av] (.tup [.lst 3 (oB l k x a).1,i64 (oB l k x a).2]):=by
 have hE:=Kt l hl hli k a al false;rw[<- nW hli]at hE;unfold oB
 by_cases h0:eY l k a false=0
 ·obtain⟨n,g,ok⟩:=BQ hs h0;have D:DyW l a:=⟨hl,hli,al,ok.chk⟩
  have hgA:fM l k=g:=by unfold fM;rw[ok.hk,toNat_natCast];exact aO ok.hg
  have hG:=ok.hg;have hgo:=ok.ok;have hR:=hR h0;rw[hgA]at hR;rw[if_pos h0,hgA];rw[h0]at hE;rw[ok.hk]at hE ⊢;unfold iQ
  by_cases hk0:g.kind=0
  ·obtain⟨i,z0,d,j0,e,hj0,p0⟩:=vR ok hk0;subst e;rw[if_pos rfl];show ik _ _ _ (.tup [.lst 3 (iW l a i (l.jo.getD z0.toNat default) x).1,i64 (iW l a i (l.jo.getD z0.toNat default) x).2]);rw[aO hj0];exact RQ hE9 D (h3 ok.chk) hE (QF hE9 D (h3 ok.chk) hG hgo hj0 p0) hj0 p0 hx hq
  ·rw[if_neg hk0];obtain⟨hE0,S⟩:=hR hk0;subst hE0;have D:DyR l a:=⟨D,S⟩
   have hn1:=S.one D.hc
   by_cases hk1:g.kind=1
   ·obtain⟨i,k2,z0,z1,z2,j0,j1,j2,P⟩:=ok.rrr hk1;obtain⟨e0,e1,e2,b0,b1,_⟩:=P.at;rw[if_pos hk1,e0,e1,e2,b0,b1];have e:=P.eq;subst e;have hV:=PH D hG hgo P ok.ne;rw[IB]at hV;exact UU D hn1 hE hV P x
   ·rw[if_neg hk1]
    by_cases hk2:g.kind=2
    ·obtain⟨i,z0,z1,j0,j,P,ha,hb⟩:=ok.pr hk2;obtain⟨e0,e1,b0,_⟩:=P.at;rw[if_pos hk2,e0,e1,b0];have e:=P.eq;subst e;have hV:=Ns D hG hgo P ha hb;rw[D5]at hV;exact Qf D hn1 hE hV P ha hb x
    ·obtain⟨i,z0,z1,j0,j,P,_,hj,hb⟩:=ok.rp hk0 hk1 hk2;obtain⟨e0,e1,b0,hk3⟩:=P.at;rw[if_neg hk2,e0,e1,b0];have e:=P.eq;subst e;have hV:=Qa D hG hgo P hj hb;rw[EQ]at hV;exact LU D hn1 hE hV P hj hb x
 ·rw[if_neg h0];exact Mi hE h0
section
variable{l:Li}{xs:List Tn}{s g:Nat}(W:WkC l xs s g){k:Nat}{gr:Gr}(hg:(aR l)[k]?=some gr){j r E:Nat}{a:Aq}(Q:QInv l j r E a){n y:Nat}(ok:eF s g (n+1) y j r E=true)(hy:gr.kind≠0->0<y)
include W hg Q ok hy
theorem Kn:FP 112 [l.av,i64 k,(bV gr xs).av,a.av] (.tup [.lst 3 ((eP l a.as gr (bV gr xs)).map Sv.av),i64 (jD l a.as gr (bV gr xs))]):=by
 obtain⟨F,hF,hs,al,h3,hR⟩:=Fq W hg Q ok hy;have hgA:fM l (k:Nat)=gr:=aO hg;have h:=RJ W.hl W.li k (W.tn hg).1 (W.tn hg).2.1 a.as al (fun _=>h3) hF hs (fun _ h=>hR (by rw[hgA]at h;exact h));rw[Ew W hg Q ok hy,a.as_av]at h;exact h
end
theorem WkSt.refS{l:Li}{xs:List Tn}{s g n:Nat}(W:WkC l xs s g){a:Aq}(h:WkSt l s g (n+1) a){gr:Gr}(hg:(aR l)[a.ms.length]?=some gr) :
  FP 112 [l.av,i64 a.ms.length,(bV gr xs).av,a.av] (.tup [.lst 3 ((eP l a.as gr (bV gr xs)).map Sv.av),i64 (jD l a.as gr (bV gr xs))]):=by
 obtain⟨⟨j,r,E,y,Q,ok,hc⟩,hl⟩:=h;rw[rc hg,List.countP_cons]at hc
 exact Kn W hg Q ok (fun hk=>by
  have:jS gr=true:=decide_eq_true hk;rw[if_pos this]at hc;omega)
theorem Dp(l:Li)(hl:l.ok)(hli:aE l=0)(xs:List Tn)(hx:∀x∈xs,x.t.ok)(hn:xs.length<=100) :
  FP 34 [l.av,.lst 4 (xs.map Tn.av)] (i64 (cR l xs)):=by
 have hld:=hl.ld;refine af func34 ?_;refine gc (m8 l hl hli) ?_;refine gC (fun t16=>?_) (fun t16=>?_)
 ·have h1:cA l≠0:=dR t16;refine ae ?_;rw[HE (if_pos hli) h1]
 have hsp:cA l=0:=dz t16;refine gl ?_;refine gl ?_;refine gC (fun t23=>?_) (fun t23=>?_)
 ·have h2:=vc t23;refine ae ?_;rw[wl hli hsp,if_pos h2];rfl
 have h2:=uX t23;have he0:cR l xs=dh (xs.map Tn.err):=by rw[wl hli hsp,if_neg oz]
 refine gl ?_;refine aM [24,25] [] (fun(i:Nat)=>[(26,some (i64 i))]) (fun _=>[]) (fun i=>i<=xs.length/\∀y∈xs.take i,y.err=0) (fun i=>xs.length-i) 0 ⟨zero_le _,fun y hy=>by simp at hy⟩ ?_;rintro i ⟨hi,hz⟩ K1 J1;refine gC (fun t27=>?_) (fun t27=>?_)
 ·have hin:=aT t27;obtain⟨x,hxi⟩:=az hin;refine gi (ay hxi) ?_;refine gc (I5 x (hx x (mem_of_getElem? hxi))) ?_;refine gC (fun t33=>?_) (fun t33=>?_)
  ·have h3:x.err≠0:=dR t33;refine ae ?_;rw[he0,AM hxi hz h3]
  have h3:x.err=0:=dz t33;refine ga aH ?_;exact aG J1 (i+1) ⟨hin,fun z hz2=>by rw[cC hxi]at hz2;rcases List.mem_append.1 hz2 with h9 |h9;exact hz z h9;(rw[List.mem_singleton.1 h9];exact h3)⟩
 have hin:=a8 hi t27;refine ae ?_;rw[he0,mc (fun y hy=>hz y (by rw[hin,take_length];exact hy))];rfl
theorem Ot{xs:List Tn}{g:Gr}(hd:g.kind=0->0<=g.driver/\g.driver<xs.length)(hl:xs.length<=100) :
  FP 113 [g.av,.lst 4 (xs.map Tn.av)] (bV g xs).av:=by
 refine af func113 ?_;refine gC (fun t7=>?_) (fun t7=>?_)
 ·have hk : g.kind = 0 := by simpa [aa] using t7
  obtain⟨h0,h1⟩:=hd hk;obtain⟨x,hx⟩:=az (l:=xs) (i:=g.driver.toNat) oz;refine gi (df (n:=g.driver.toNat) oz hx) ?_;refine gR ?_;exact bH (by unfold bV;rw[if_pos hk,aO hx];exact .refl _)
 have hk:g.kind≠0:=by simpa[aa]using t7
 refine gR ?_;exact bH (by unfold bV;rw[if_neg hk];exact Sub.agg (.cons (.refl _) (.cons (Sub.nil _ _ _) (.cons (Sub.nil _ _ _) (.cons (.refl _) .nil)))) rfl)
theorem SM{l:Li}(h0:0<l.bo.length)(hl:l.bo.length<=100):FP 110 [l.av] (fq l).av:=by
 refine af func110 ?_;refine gl ?_;refine gs (fL (.tmp rfl) T38 rfl T69 rfl rfl oz (by dsimp only;omega) rfl) ?_ (2,0);refine gW (Wk.of (sl:=[(2,some (.ptr 2 0)),(3,some (.ptr 3 0))]) (hp:=[(2,some (.box [nS,nS,nS])),(3,some (.box [nS,.ms 7 4 0 l.bo.length,nS])),(7,some (.row 4 ((List.replicate l.bo.length oh).map Pq.av)))]) aQ (.k (.k (.cons rfl (DS _) .nil)))) ?_;refine gc Rf ?_;refine gs (bQ (n:=0) (.tmp rfl) (.const _) T38 rfl T69 rfl oz oz rfl) ?_;refine gs (cK (.tmp rfl) rfl (by rw[getElem?_map,getElem?_replicate,if_pos h0];rfl) rfl (.tmp rfl) rfl rfl T69 rfl rfl) ?_;refine gD ?_ (3,0);refine gW ((Wk.freeze (k:=7) rfl).trans<|Wk.of (sl:=[(2,some (.ptr 2 0)),(3,some (.ptr 3 0))]) (hp:=[(2,some (.box [nS,nS,nS])),(3,some (.box [nS,.lst 4 ((fq l).bs.map Pq.av),nS]))]) aQ (.k (.cons rfl (BlkSub.bL (.cons (.refl _) (.cons (Sub.of (by rw[bA (by simp)];unfold fq;rw[map_set];rfl)) (.cons (.refl _) .nil))) rfl) .nil))) ?_;refine gR ?_;exact bH (Sub.agg (.cons (Sub.nil _ _ _) (.cons (.refl _) (.cons (Sub.nil _ _ _) .nil))) rfl)
theorem Pr{a:Aq}{g:Gr}{s:Sv}(hb:∀b∈g.bo,0<=b/\b<a.bs.length)(hl:s.ps.length=g.bo.length)(l1:a.bs.length<=100)(l2:a.ms.length<=100)(l3:g.bo.length<=100):FP 114 [a.av,g.av,s.av] (a.nxt g s).av:=by
 refine af func114 ?_;refine gs (f9 T38 rfl T69 rfl rfl rfl) ?_;refine gs (bK (.tmp rfl) rfl rfl (.tmp rfl) T38 rfl T69 rfl rfl (by simp only[length_map];omega) rfl rfl) ?_;refine gs (f9 T39 rfl T3 rfl rfl rfl) ?_;refine gs (bK (.tmp rfl) rfl rfl (.tmp rfl) T39 rfl T3 rfl rfl (by simp only[length_map];omega) rfl rfl) ?_;refine gs (bK (.tmp rfl) rfl (by simp) (.tmp rfl) T39 rfl T3 rfl rfl (by simp only[length_map,length_cons,length_nil];omega) rfl rfl) ?_;refine gD ?_ (2,0);refine gW ((Wk.freeze (k:=23) rfl).trans<|Wk.of (sl:=[(3,some (.ptr 3 0)),(4,some (.ptr 4 0)),(5,some (.ptr 5 0)),(6,some (.ptr 6 0)),(7,some (.ptr 7 0))]) (hp:=[(3,some (.box a.cs)),(4,some (.box g.av.cells)),(5,some (.box s.av.cells)),(6,some (.box [nS,nS,nS])),(7,some (.box [.lst 1 (s.ts.map nA),.ms 15 4 0 a.bs.length,.lst 1 ((a.ms++[s.mode]).map i64)])),(15,some (.row 4 ((jC a.bs (g.bo.take 0) (s.ps.take 0)).map Pq.av)))]) aQ (.k (.k (.k (.k (.cons rfl (BlkSub.bL (.cons (.refl _) (.cons (Sub.of (congrArg (AV.ms 15 4 0) (by rw[length_map];omega))) (.cons (Sub.of (by rw[bA (by simp)];simp)) .nil))) rfl) (.k .nil))))))) ?_
 refine gl ?_;refine aM [3,4,5,6,7,26,27] [3,4,5,6,7] (fun(i:Nat)=>[(28,some (i64 i))]) (fun i=>[(15,some (.row 4 ((jC a.bs (g.bo.take i) (s.ps.take i)).map Pq.av)))]) (fun i=>i<=g.bo.length) (fun i=>g.bo.length-i) 0 (zero_le _) ?_;rintro i hi K1 J1;refine gC (fun t29=>?_) (fun t29=>?_) (st2:=(7,0))
 ·have hin:=aT t29;obtain⟨b,hbi⟩:=az hin;obtain⟨p,hp⟩:=az (l:=s.ps) (i:=i) oz;obtain⟨hb0,hb1⟩:=hb b (mem_of_getElem? hbi);have hpl:=pI a.bs (g.bo.take i) (s.ps.take i);obtain⟨o,ho⟩:=az (l:=jC a.bs (g.bo.take i) (s.ps.take i)) (i:=b.toNat) oz;refine gi (ay hbi) ?_;refine gi (ay hp) ?_;refine gs (jp (.tmp rfl) (.tmp rfl) T38 rfl T69 rfl oz oz rfl) ?_;refine gs (cK (.tmp rfl) rfl (by rw[Nat.zero_add,getElem?_map,ho];rfl) rfl (.tmp rfl) rfl rfl T69 rfl rfl) ?_;refine gD ?_;refine ga aH ?_;exact aG J1 (i+1) hin (hw:=Wk.of aQ (.cons rfl (BlkSub.of (by rw[GU hbi hp,map_set,Nat.zero_add];rfl)) (.k (.k (.k (.k (.k .nil)))))))
 have hin:=a8 hi t29;subst hin;refine gW ((Wk.freeze (k:=15) rfl).trans<|Wk.of (sl:=[(6,some (.ptr 6 0)),(7,some (.ptr 7 0))]) (hp:=[(6,some (.box [nS,nS,nS])),(7,some (.box (a.nxt g s).cs))]) aQ (.k (.cons rfl (BlkSub.bL (.cons (.refl _) (.cons (Sub.of (by rw[bA (by rw[length_map,pI])];rw[take_length,take_of_length_le oz];rfl)) (.cons (.refl _) .nil))) rfl) .nil))) ?_;refine ae ?_;rfl
theorem KH{l:Li}{xs:List Tn}{G:List Gr}{a:Aq}(hG:G.length<=100):FP 109 [l.av,.lst 4 (G.map Gr.av),.lst 4 (xs.map Tn.av),i64 G.length,a.av] (.tup [.lst 3 ([a].map Aq.av),i64 0]):=by
 refine af func109 ?_;refine gl ?_;refine gC (fun t22=>?_) (fun t22=>?_) (st2:=(77777,0))
 ·refine a9 ?_;rfl
 exact absurd t22 (by simp[aa])
def lS(R:List Aq×Nat):AV:=.tup [.lst 3 ((if R.2≠0 then[]else R.1).map Aq.av),i64 R.2]
theorem PQ{R:List Aq×Nat}(h:R.2=0):lS R=.tup [.lst 3 (R.1.map Aq.av),i64 0]:=by unfold lS;rw[if_neg (fun h9=>h9 h),h];rfl
theorem GA{R:List Aq×Nat}(h:R.2≠0):lS R=.tup [.lst 3 [],i64 R.2]:=by unfold lS;rw[if_pos h];rfl
theorem Ro{l:Li}{xs:List Tn}{G:List Gr}{a:Aq}{k:Nat}{g:Gr}(hg:G[k]?=some g)(hG:G.length<=100)(hx:xs.length<=100)(hd:g.kind=0->0<=g.driver/\g.driver<xs.length)
  {S:List Sv} {E:Nat} (hS:FP 112 [l.av,i64 k,(bV g xs).av,a.av] (.tup [.lst 3 (S.map Sv.av),i64 E])) (hSl:S.length<=100)
  (hb:∀s∈S,FP 114 [a.av,g.av,s.av] (a.nxt g s).av)
  {f:Sv->List Aq×Nat} {M:Nat} (hM:∀s∈S,(f s).1.length<=M) (hMB:M<=1000) (ih:∀s∈S,FP 109 [l.av,.lst 4 (G.map Gr.av),.lst 4 (xs.map Tn.av),i64 (k+1:Nat),(a.nxt g s).av] (lS (f s))) :
  FP 109 [l.av,.lst 4 (G.map Gr.av),.lst 4 (xs.map Tn.av),i64 k,a.av] (lS (if E≠0 then([],E)else eT (fA k) false f S)):=by
 have hkG:=(List.getElem?_eq_some_iff.1 hg).1;refine af func109 ?_;refine gl ?_;refine gC (fun t22=>?_) (fun t22=>?_) (st1:=(2,0));exact absurd t22 (by simp[aa];omega);refine gi (ay hg) ?_;refine gc (Ot hd hx) ?_;refine gc hS ?_;refine gD ?_;refine gC (fun t39=>?_) (fun t39=>?_)
 ·have hE:E≠0:=dR t39;refine gR ?_;exact bH (by rw[if_pos hE,GA hE];exact Sub.tup (.cons (.nil _ _ _) (.cons (.refl _) .nil)))
 have hE:E=0:=dz t39;refine gl ?_;refine gW (Wk.virt 900 3 rfl) ?_;refine fS [1,2,3,5,9,41,42] [5,9] (fun(i:Nat)(c:List Aq)=>[(14,some (.ms 900 3 0 c.length)),(43,some (i64 i))]) (fun _ c=>[(900,some (.row 3 (c.map Aq.av)))]) (fun i c=>oa (fA k) false f S i c/\c.length<=i*M) (fun i _=>S.length-i) 0 ([]) ⟨HC (fA k) false f S,zero_le _⟩ ?_ (h1:=(.cons rfl (Sub.nM _ _ _) (.k .nil)));rintro i c ⟨hfo,hcl⟩ K1 J1;refine gC (fun t44=>?_) (fun t44=>?_) (st2:=(15,0))
 ·have hin:=aT t44;obtain⟨s,hs⟩:=az hin;have hsm:=mem_of_getElem? hs;have hfl:=hM s hsm;have hmul:(i+1)*M=i*M+M:=Nat.succ_mul i M;have hmul2:(i+1)*M<=100*1000:=Nat.mul_le_mul oz hMB;refine gi (ay hs) ?_;refine ga aH ?_;refine gi (ay hg) ?_;refine gc (hb s hsm) ?_;refine gc (ih s hsm) ?_;refine gD ?_;refine gC (fun t64=>?_) (fun t64=>?_) (st2:=(77777,0))
  ·have he:(f s).2≠0:=dR t64;have hR:=HM hfo hs rfl he;refine gR ?_;exact bH (by rw[if_neg (fun h9=>h9 hE),hR,GA (R:=(c++(f s).1,(f s).2)) he];exact Sub.tup (.cons (.nil _ _ _) (.cons (.refl _) .nil)))
  have he:(f s).2=0:=dz t64;refine gW (Wk.of (sl:=[(1,some (.lst 4 (G.map Gr.av))),(2,some (.lst 4 (xs.map Tn.av))),(3,some (i64 k)),(5,some (.ptr 5 0)),(9,some (.ptr 9 0)),(14,some (.ms 900 3 0 c.length)),(17,some (.lst 3 ((f s).1.map Aq.av))),(41,some (.lst 3 (S.map Sv.av))),(42,some (i64 S.length)),(43,some (i64 i))]) (hp:=[(5,some (.box l.av.cells)),(9,some (.box a.cs)),(900,some (.row 3 (c.map Aq.av)))]) (.k (.k (.k (.k (.k (.k (.cons rfl (Sub.of (by rw[if_neg (fun h9=>h9 he)])) (.k (.k (.k .nil)))))))))) (.k (.k (.k .nil)))) ?_
  refine gs (bK (.tmp rfl) rfl (by rw[length_map]) (.tmp rfl) T87 rfl T41 rfl rfl (by simp only[length_map];omega) rfl rfl) ?_ (14,0);refine gW (Wk.of (sl:=[(1,some (.lst 4 (G.map Gr.av))),(2,some (.lst 4 (xs.map Tn.av))),(3,some (i64 k)),(5,some (.ptr 5 0)),(9,some (.ptr 9 0)),(14,some (.ms 68 3 0 (c++(f s).1).length)),(41,some (.lst 3 (S.map Sv.av))),(42,some (i64 S.length)),(43,some (i64 i))]) (hp:=[(5,some (.box l.av.cells)),(9,some (.box a.cs)),(68,some (.row 3 ((c++(f s).1).map Aq.av)))]) (.k (.k (.k (.k (.k (.cons rfl (Sub.of (congrArg (AV.ms 68 3 0) (by simp))) (.k (.k (.k .nil))))))))) (.k (.k (.cons rfl (BlkSub.of (by rw[map_append])) .nil)))) ?_ (14,0)
  refine gW (Wk.rk (k:=68) (d:=900) rfl rfl) ?_;refine ga aH ?_;exact fH J1 (i+1) (c++(f s).1) ⟨B4 hfo hs rfl he rfl,by rw[length_append];omega⟩
 have hin:=a8 hfo.1 t44;subst hin;have hR:=Ea hfo;refine gW ((Wk.freeze (k:=900) rfl).trans<|Wk.of (sl:=[(14,some (.lst 3 (c.map Aq.av)))]) (hp:=[]) (.cons rfl (Sub.of (bA (by rw[length_map]))) .nil) .nil) ?_;refine gR ?_;exact bH (Sub.of (by rw[if_neg (fun h9=>h9 hE),hR,PQ (R:=(c,0)) rfl];rfl))
theorem Rt.qbV{r:Rt}{e:Nat}(h:r.ok)(he:1<=e)(hn:val r.num<2^e)(hd:val r.den<2^e):Qb e r.q:=by
 by_cases h0:r.valid=true/\r.num≠[]
 ·obtain⟨h1,h2,h3,h4,h5,h6⟩:=Rt.parts h h0.1 h0.2;refine⟨?_,?_⟩
  ·have : r.q.num.natAbs = val r.num := by rw [h1]; unfold sgn; split <;> omega
   rw[this];exact hn
  ·rw[h2];exact hd
 ·rw[Rt.zero h0];exact Qb.zero.mono he
theorem H5{l:List Nat}{b e:Nat}(h:¬1<l.length)(hb:l.length=1->ai l 0<=b)(he:b<2^e):val l<2^e:=by
 match l with
 |[]=>exact lt_of_le_of_lt (zero_le b) he
 |[x] =>
  have h1:x<=b:=hb rfl;have h2:val [x]=x:=by simp[val]
  rw[h2];omega
 |_::_::_=>simp at h
theorem BO{r:Rt}(h:r.ok)(hl:k8 r=true):Qb 9 r.q:=by
 unfold k8 at hl;rw[ig,ig,ig,Bool.not_eq_true',Bool.or_eq_false_iff,Bool.or_eq_false_iff,Bool.or_eq_false_iff]at hl;obtain⟨⟨⟨h1,h2⟩,h3⟩,h4⟩:=hl;have g1:r.num.length<=1:=gP (b:=1) h1;have g2:r.den.length<=1:=gP (b:=1) h2;refine Rt.qbV h oz (H5 (b:=400) oz (fun hh=>?_) (by decide)) (H5 (b:=20) oz (fun hh=>?_) (by decide))
 ·rw[hh]at h3;exact gP (b:=400) h3
 ·rw[hh]at h4;exact gP (b:=20) h4
theorem Qe{l:Li}{xs:List Tn}(h:cR l xs=0):aE l=0/\cA l=0/\xs.length=l.dv.length/\∀x∈xs,x.err=0:=by
 unfold cR at h;split at h
 ·rename_i h1;exact absurd h h1
 ·rename_i h1;have h1:=Decidable.not_not.1 h1;unfold rQ at h;split at h
  ·rename_i h2;exact absurd h h2
  ·rename_i h2;have h2:=Decidable.not_not.1 h2;split at h
   ·cases h
   ·rename_i h3;exact⟨h1,h2,Decidable.not_not.1 h3,fun x hx=>oi h _ (List.mem_map.2 ⟨x,hx,rfl⟩)⟩
theorem O1(gs:List Gr):gs.countP jS+gs.countP (fun g=>decide (g.kind=0))=gs.length:=by
 induction gs with
 |nil=>rfl
 |cons g gs ih =>
  rw[List.countP_cons,List.countP_cons,length_cons]
  by_cases hk:g.kind=0
  ·have h1 : jS g = false := by unfold jS; simp [hk]
   rw[h1];simp only[hk,decide_true,Bool.false_eq_true,if_false,if_true];omega
  ·have h1:jS g=true:=decide_eq_true hk;rw[h1];simp only[hk,decide_false,Bool.false_eq_true,if_false,if_true];omega
theorem u7{s g:Nat}:∀{n m y y' j r E:Nat},eF s g n y j r E=true->m<=n->y'<=y->eF s g m y' j r E=true
 |n,0,y,y',j,r,E,h,hm,hy=>by
  have h1:=y9 h;exact decide_eq_true h1
 |n+1,m+1,y,y',j,r,E,h,hm,hy=>by
  have h1:=sC h;unfold eF;simp only[and_eq_true,or_eq_true,decide_eq_true_eq];refine⟨h1.1,u7 h1.2 oz hy,?_⟩
  by_cases hz:y'=0
  ·exact .inl hz
  ·right;obtain ⟨y2,rfl⟩:∃ y2,y = y2 + 1:=⟨y - 1,by omega⟩
   have h2:=sU h;exact⟨h2.1,u7 h2.2 oz oz⟩
theorem Kk{l:Li}{xs:List Tn}(hL:kp l xs=true)(hl:l.ok)(hxw:∀x∈xs,x.t.wok)(h0:cR l xs=0):∃s g,WkC l xs s g/\WkSt l s g (aR l).length (fq l):=by
 obtain⟨hli,hsp,hln,hxe⟩:=Qe h0;unfold kp at hL;simp only[and_eq_true,decide_eq_true_eq]at hL;obtain⟨⟨_,_⟩,hT,hM,hR⟩:=hL;rw[all_eq_true]at hT hM;rw[if_pos hli]at hR;unfold zO at hR;rw[ig,ig,iC]at hR;have hdl:=OV hli hsp;have hd2:=vD hli;have hcn:=O1 (aR l)
 have hxo:∀x∈xs,x.t.ok/\Qb 32 x.t.q:=fun x hx=>by
  have h9:=hT x hx;unfold lX at h9;rw[decide_eq_true_eq]at h9;have ho:=(hxw x hx).ok h9.1 h9.2 oz;exact⟨ho,(Rt.qb ho (k:=1) oz h9.1 h9.2).mono oz⟩
 have hstart:∀(s g n y:Nat),eF s g n y 0 0 2=true->(aR l).length<=n->(aR l).countP jS<=y->WkSt l s g (aR l).length (fq l):=fun s g n y ok h1 h2 =>
  ⟨⟨0,0,2,y,F1 l,u7 ok h1 (le_refl _),h2⟩,Nat.zero_add _⟩
 by_cases hn:(aR l).length<=l.dv.length+1
 ·refine⟨32,134,⟨hl,hli,hsp,?_,hln,fun x hx=>?_⟩,hstart 32 134 3 1 EM oz oz⟩
  ·intro b hb m hm;have h9:=hM b hb;rw[all_eq_true]at h9;have h8:=h9 m hm;unfold kA at h8;rw[decide_eq_true_eq]at h8;have ho:=(hl.bo b hb).pts m hm;exact⟨(Rt.qb ho.x (k:=1) oz h8.1 h8.2.1).mono oz,(Rt.qb ho.y (k:=1) oz h8.2.2.1 h8.2.2.2).mono oz⟩
  ·obtain⟨h1,h2⟩:=hxo x hx;exact⟨h1,hxe x hx,h2.mono oz,Cb.one (qr h2),Cb.one (pV h2)⟩
 ·have hlow:(aR l).length=l.dv.length+2/\pR xs=true/\qQ l=true:=by
   simp only[or_eq_true,and_eq_true]at hR;rcases hR with(h9 |h9) |⟨h9,h8⟩
   ·rw[hsp]at h9;exact absurd h9 (by simp[aa])
   ·have : ((aR l).length : Int) - l.dv.length <= 1 := by simpa [aa] using h9
    omega
   ·have : ((aR l).length : Int) - l.dv.length = 2 := by simpa [aa] using h9
    exact⟨by omega,h8.1,h8.2⟩
  obtain⟨hlen,hlT,hlL⟩:=hlow;refine⟨9,42,⟨hl,hli,hsp,?_,hln,fun x hx=>?_⟩,hstart 9 42 4 2 JJ oz oz⟩
  ·intro b hb m hm;unfold qQ at hlL;rw[all_eq_true]at hlL;have h9:=hlL b hb;unfold tZ at h9;rw[all_eq_true]at h9;have h8:=h9 m hm;simp only[List.all_cons,List.all_nil,Bool.and_true,and_eq_true]at h8;have ho:=(hl.bo b hb).pts m hm;exact⟨BO ho.x h8.1,BO ho.y h8.2⟩
  ·obtain⟨h1,h2⟩:=hxo x hx;unfold pR at hlT;rw[all_eq_true]at hlT;have h8:=hlT x hx;simp only[List.all_cons,List.all_nil,Bool.and_true]at h8;have h9:=BO h1 h8;exact⟨h1,hxe x hx,h2.mono oz,Cb.one (qr h9),Cb.one (pV h9)⟩
theorem F9{l:Li}{xs:List Tn}{s g:Nat}(W:WkC l xs s g):∀(n:Nat)(a:Aq),WkSt l s g n a->n<=8 ->
      FP 109 [l.av,.lst 4 ((aR l).map Gr.av),.lst 4 (xs.map Tn.av),i64 (a.ms.length:Nat),a.av] (lS (fN fA false l xs (aR l) n a))
  |0,a,h,_=>by
    have hG:(aR l).length<=100:=by have:=jQ W.li;omega
    have e:a.ms.length=(aR l).length:=by have:=h.ln;omega
    rw[e];exact KH hG
  |n+1,a,h,h8=>by
    have hG:(aR l).length<=100:=by have:=jQ W.li;omega
    have hlb:=(da W.li).2.2.2.1;have hln:=h.ln;obtain⟨j,r,E,y,Q,ok,_⟩:=h.st;obtain⟨gr,hg,_,hP,hn⟩:=h.next W;have hS:=h.refS W hg;obtain⟨hdy,hgo⟩:=nZ W.li (mem_of_getElem? hg);have h2:=vD W.li;have hxl:=W.ln;have hQl:=Q.ln;have hgb:=hgo.lb;have hp8:2^n<=256:=le_trans (bP (b:=8) oz) (by decide)
    have key := Ro (l := l) (xs := xs) (G := aR l) hg hG oz (fun hk => by rw [hxl]; exact zi hdy hk) hS (by have := hP.two; omega)
      (fun sv hsv => Pr (fun b hb => by rw [hQl]; exact hgo.b b hb) (by
        obtain⟨i,hi⟩:=List.getElem?_of_mem hsv;exact(hP.md i sv hi).2.2) oz oz oz)
      (f:=fun sv=>fN fA false l xs (aR l) n (a.nxt gr sv)) (M:=2^n) (fun sv hsv=>ut W fA false n _ (hn sv hsv)) oz
      (fun sv hsv=>by
        have h9:=F9 W n _ (hn sv hsv) oz;have e:(a.nxt gr sv).ms.length=a.ms.length+1:=by show(a.ms++[sv.mode]).length=_;simp
        rw[e]at h9;exact h9)
    have e:fN fA false l xs (aR l) (n+1) a=(if jD l a.as gr (bV gr xs)≠0 then([],jD l a.as gr (bV gr xs))else eT (fA a.ms.length) false (fun sv=>fN fA false l xs (aR l) n (a.nxt gr sv)) (eP l a.as gr (bV gr xs))):=by
      conv=>lhs;unfold fN
      rw[aO hg]
    rw[e];exact key
theorem B0(a:List Int)(ha:a.length<=281474976710656):FP 48 [.lst 1 (a.map i64),.lst 1 (a.map i64)] (bl true):=by
 refine af func48 ?_;refine gl ?_;refine gl ?_;refine gC (fun t10=>?_) (fun t10=>?_) (st1:=(2,0));exact absurd t10 (by simp[aa]);refine aM [0,1] [] (fun(i:Nat)=>[(5,some (i64 i))]) (fun _=>[]) (fun i=>i<=a.length) (fun i=>a.length-i) 0 (zero_le _) ?_;rintro i hi K1 J1;refine gl ?_;refine gC (fun t14=>?_) (fun t14=>?_)
 ·have hin:=aT t14;obtain⟨x,hx⟩:=az hin;refine gi (ay hx) ?_;refine gi (ay hx) ?_;refine gD ?_;refine gC (fun t25=>?_) (fun t25=>?_) (st1:=(7,0));exact absurd t25 (by simp[aa]);refine ga aH ?_;exact aG J1 (i+1) hin
 refine ae ?_;rfl
theorem MX{l:Li}{xs:List Tn}{e:Nat}(h0:e≠0)(hB:FP 34 [l.av,.lst 4 (xs.map Tn.av)] (i64 e)):FP 43 [l.av,.lst 4 (xs.map Tn.av)] (.tup [.lst 3 [],i64 e]):=by
 refine af func43 ?_;refine gc hB ?_;refine gC (fun t13=>?_) (fun t13=>?_) (st2:=(77777,0))
 ·refine gR ?_;exact bH (Sub.tup (.cons (.nil _ _ _) (.cons (.refl _) .nil)))
 exact absurd (dz t13) h0
theorem U6{l:Li}(hl:l.ok)(hli:aE l=0){xs:List Tn}(hB:FP 34 [l.av,.lst 4 (xs.map Tn.av)] (i64 0)){R:List Aq×Nat}
  (hw:FP 109 [l.av,.lst 4 ((aR l).map Gr.av),.lst 4 (xs.map Tn.av),i64 0,(fq l).av] (lS R)):FP 43 [l.av,.lst 4 (xs.map Tn.av)] (lS R):=by
 have hlb:=(da hli).2.2.2;refine af func43 ?_;refine gc hB ?_;refine gC (fun t13=>?_) (fun t13=>?_) (st1:=(3,0));cases t13;refine gc (m8 l hl hli) ?_;refine gc (SM oz oz) ?_;refine gc hw ?_;refine gD ?_;refine a9 ?_;rfl
structure AqOk(a:Aq):Prop where
  tw:∃r,Tw a.ts r
  two:a.ts.length<=2
  bs:∀p∈a.bs,Pq.ok a.ts.length 50000000000 p
  lb:a.bs.length<=100
  lm:a.ms.length<=100
theorem WkSt.aq{l:Li}{s g n:Nat}{a:Aq}(hli:aE l=0)(h:WkSt l s g n a):AqOk a:=by
 obtain⟨⟨j,r,E,y,Q,ok,_⟩,hl⟩:=h;obtain⟨hE,hr,hj⟩:=y9 ok;have h1:=Q.lv;have h2:=Q.ln;have h3:=(da hli).2.2.2.1;have h4:=jQ hli;exact⟨⟨r,Q.tw⟩,by omega,fun p hp=>(Q.bs p hp).up (le_refl _) Q.tw.five hE,by omega,by omega⟩
theorem yg{F:Int->Bool}{sg:Bool}{f:Sv->List Aq×Nat}{b:Aq}:∀{S:List Sv},b∈(eT F sg f S).1->∃s∈S,F s.mode=true/\b∈(f s).1
 |[],h=>by cases h
 |s::S,h=>by
  rw[pa]at h;split at h
  ·obtain⟨x,hx,h2⟩:=yg h;exact⟨x,mem_cons_of_mem _ hx,h2⟩
  ·rename_i hF;have hF:F s.mode = true:=by simpa using hF
   split at h
   ·exact⟨s,mem_cons_self,hF,h⟩
   ·split at h
    ·exact⟨s,mem_cons_self,hF,h⟩
    ·rcases List.mem_append.1 h with h |h
     ·exact⟨s,mem_cons_self,hF,h⟩
     ·obtain⟨x,hx,h2⟩:=yg h;exact⟨x,mem_cons_of_mem _ hx,h2⟩
theorem FX{l:Li}{xs:List Tn}{s g:Nat}(W:WkC l xs s g){F:Nat->Int->Bool}{sg:Bool}:∀(n:Nat)(a:Aq),WkSt l s g n a->∀b∈(fN F sg l xs (aR l) n a).1,WkSt l s g 0 b
 |0,a,h,b,hb=>by rw[List.mem_singleton.1 hb];exact h
 |n+1,a,h,b,hb=>by
  obtain⟨gr,hg,_,hP,hn⟩:=h.next W;unfold fN at hb;rw[aO hg]at hb;split at hb
  ·cases hb
  ·obtain⟨sv,hsv,_,h2⟩:=yg hb;exact FX W n _ (hn sv hsv) b h2
theorem SF{a:Aq}(h:AqOk a):FP 47 [a.av,a.av] (bl true):=by
 obtain⟨r,tw⟩:=h.tw;have hlb:=h.lb;have hlm:=h.lm;refine af func47 ?_;refine gc (ST tw) ?_;refine bZ ?_;refine bZ ?_;refine bI (fun _=>(B0 a.ms oz)) ?_;refine gC (fun t28=>?_) (fun t28=>?_) (st1:=(2,0));exact absurd t28 (by simp[aa]);refine gl ?_;refine aM [2,3,31] [2,3] (fun(i:Nat)=>[(32,some (i64 i))]) (fun _=>[]) (fun i=>i<=a.bs.length) (fun i=>a.bs.length-i) 0 (zero_le _) ?_;rintro i hi K1 J1;refine gC (fun t33=>?_) (fun t33=>?_)
 ·have hin:=aT t33;obtain⟨p,hp⟩:=az hin;refine gi (ay hp) ?_;refine gi (ay hp) ?_;refine gc (NW tw h.two ((h.bs p (mem_of_getElem? hp)).up (le_refl _) tw.five oz)) ?_;refine gD ?_;refine gC (fun t48=>?_) (fun t48=>?_) (st1:=(7,0));cases t48;refine ga aH ?_;exact aG J1 (i+1) hin
 refine ae ?_;rfl
theorem TH{A:List Aq}(h:∀a∈A,AqOk a)(hl:A.length<=1000):FP 44 [.lst 3 (A.map Aq.av),.lst 3 (A.map Aq.av)] (bl true):=by
 refine af func44 ?_;refine gl ?_;refine gl ?_;refine gC (fun t10=>?_) (fun t10=>?_) (st1:=(2,0));exact absurd t10 (by simp[aa]);refine gl ?_;refine aM [0,1,12] [] (fun(i:Nat)=>[(13,some (i64 i))]) (fun _=>[]) (fun i=>i<=A.length) (fun i=>A.length-i) 0 (zero_le _) ?_;rintro i hi K1 J1;refine gC (fun t14=>?_) (fun t14=>?_)
 ·have hin:=aT t14;obtain⟨a,ha⟩:=az hin;refine gi (ay ha) ?_;refine gi (ay ha) ?_;refine gc (SF (h a (mem_of_getElem? ha))) ?_;refine gD ?_;refine gC (fun t25=>?_) (fun t25=>?_) (st1:=(7,0));cases t25;refine ga aH ?_;exact aG J1 (i+1) hin
 refine ae ?_;rfl
def lF(s:ByteArray)(n:Int):Bd:=⟨s,[⟨⟨#[97]⟩,rt ((0:Int):Rat),rt ((0:Int):Rat)⟩,⟨⟨#[98]⟩,rt (n:Rat),rt ((0:Int):Rat)⟩]⟩
def fb:Li:=⟨⟨#[102,111,117,114,98,97,114]⟩,[lF ⟨#[102,114,97,109,101]⟩ 4,lF ⟨#[99,114,97,110,107]⟩ 3,lF ⟨#[99,111,117,112,108,101,114]⟩ 5,lF ⟨#[114,111,99,107,101,114]⟩ 6],
  [⟨⟨#[111]⟩,0,1,0,0,0,0⟩,⟨⟨#[112]⟩,0,2,0,1,1,0⟩,⟨⟨#[113]⟩,0,3,0,0,1,0⟩,⟨⟨#[114]⟩,0,2,1,3,1,0⟩],[⟨⟨#[100]⟩,1⟩]⟩
def t0:Tn:=⟨⟨false,[],[]⟩,false⟩
theorem Ax(a b:ByteArray):dD a b=(a.data.toList==b.data.toList):=by
 unfold dD;rw[Go.ByteArray.toList_eq,Go.ByteArray.toList_eq]
theorem Fo:aE fb=0:=by
 have h1:ii fb=0:=by
  unfold ii eV en gg dY;simp only[Ax];decide +kernel
 have h2:eD fb=0:=by
  unfold eD eV fP gg;simp only[Ax];decide +kernel
 have h3:gw fb=0:=by
  unfold gw eV dV gg;simp only[Ax];decide +kernel
 unfold aE;rw[h1,h2,h3];decide +kernel
theorem To{s:ByteArray}(hs:s.size<=281474976710656){n:Int}(hn:-9223372036854775808<=n/\n<=9223372036854775807) :
  (lF s n).name.size<=281474976710656/\(lF s n).pts.length<=281474976710656/\∀m∈(lF s n).pts,m.name.size<=281474976710656/\m.x.wok/\m.y.wok:=by
 have h0:(rt ((0:Int):Rat)).ok:=(mZ oz).ok;have h1:(rt (n:Rat)).ok:=(mZ hn).ok;refine⟨hs,by show 2<=_;omega,fun m hm=>?_⟩;simp only[lF,mem_cons,not_mem_nil,or_false]at hm;rcases hm with rfl |rfl
 ·exact⟨by show 1<=_;omega,h0.wok,h0.wok⟩
 ·exact⟨by show 1<=_;omega,h1.wok,h0.wok⟩
theorem J7:fb.okw:=by
 refine⟨by decide,fun b hb=>?_,fun j hj=>?_,fun d hd=>?_,by decide,by decide,by decide⟩
 ·simp only[fb,mem_cons,not_mem_nil,or_false]at hb;rcases hb with rfl |rfl |rfl |rfl <;> exact To (by decide) oz
 ·simp only[fb,mem_cons,not_mem_nil,or_false]at hj;rcases hj with rfl |rfl |rfl |rfl <;> decide
 ·simp only[fb,mem_cons,not_mem_nil,or_false]at hd;rcases hd with rfl;decide
theorem EH:fb.ok:=AH (by decide +kernel) J7
theorem jy.ofL{l l':List AV}(h:SubL l l')(ho:l'.all AV.one=true):jy (.agg l) (.agg l') :=
 ⟨h.len,fun j x y hx hy=>⟨List.all_eq_true.1 ho y (mem_of_getElem? hy),h.get j x y hx hy⟩⟩
theorem Cm(s:ByteArray)(x y:Int)(hx:-9223372036854775808<=x/\x<=9223372036854775807)(hy:-9223372036854775808<=y/\y<=9223372036854775807):FP 234 [.v (.string s),i64 x,i64 y] (Mk.av ⟨s,rt (x:Rat),rt (y:Rat)⟩):=by
 refine af func234 ?_;refine gc (kP x hx) ?_;refine gc (kP y hy) ?_;refine ae ?_
 first |rfl |(simp;done)
theorem wC(s:ByteArray)(n:Int)(hn:-9223372036854775808<=n/\n<=9223372036854775807):FP 127 [.v (.string s),i64 n] (lF s n).av:=by
 refine af func127 ?_;refine gc (Cm _ 0 0 oz oz) ?_;refine gc (Cm _ n 0 hn oz) ?_;refine ae ?_
 first |rfl |(simp;done)
theorem O6:FP 55 [] fb.av:=by
 refine af func55 ?_;refine gc (wC _ 4 oz) ?_;refine gc (wC _ 3 oz) ?_;refine gc (wC _ 5 oz) ?_;refine gc (wC _ 6 oz) ?_;refine ae ?_
 first |rfl |(simp;done)
deriving instance DecidableEq for Pq
deriving instance DecidableEq for Aq
def CH:List Aq×Nat:=pP fA false fb [iP]
theorem Kg:cR fb [iP]=0:=by
 unfold cR rQ;rw[if_neg (by rw[Fo];decide),if_neg (show ¬cA fb≠0 by decide +kernel),if_neg (show ¬[iP].length≠fb.dv.length by decide +kernel)];decide +kernel
def aF:Aq:=⟨[],[⟨[1],[],[],[]⟩,⟨[1],[],[],[]⟩,⟨[-1],[],[3],[]⟩,⟨[-1],[],[4],[]⟩],[1,0]⟩
theorem PD:CH=([aF],0):=by decide +kernel
theorem NH:WkC fb [iP] 32 134:=by
 have z:iP.t.q=0:=by decide +kernel
 have h0:Qb 32 iP.t.q:=by rw[z];exact Qb.zero.mono oz
 refine⟨EH,Fo,by decide +kernel,?_,rfl,fun x hx=>?_⟩
 ·have h : ∀ b ∈ fb.bo, ∀ m ∈ b.pts, (m.x.q.num.natAbs < 2 ^ 32 /\ m.x.q.den < 2 ^ 32) /\ (m.y.q.num.natAbs < 2 ^ 32 /\ m.y.q.den < 2 ^ 32) := by decide +kernel
  exact h
 ·rw[List.mem_singleton.1 hx];exact⟨Af,by decide +kernel,Cz,Cb.one (qr h0),Cb.one (pV h0)⟩
theorem Qw:WkSt fb 32 134 (aR fb).length (fq fb):=by
 refine⟨⟨0,0,2,1,F1 fb,u7 EM ?_ (le_refl _),?_⟩,Nat.zero_add _⟩
 ·decide +kernel
 ·decide +kernel
theorem LW:FP 33 [fb.av,.lst 4 [iP.av]] (.tup [.lst 3 [aF.av],bn 0]):=by
 have hop:=ES fb EH [iP] (fun x hx=>by rw[List.mem_singleton.1 hx];exact Af) (by show 1<=100;omega);have hp:([]:List Aq).length+2^(aR fb).length<=1000:=by decide +kernel
 have hw:=yw NH fA false (fo:=189) (caps:=[]) (fun k m _=>Ft k m) (aR fb).length (fq fb) Qw [] hp;have hA:=GZ Kg hop (by show 0<4;omega) (by show 4<=100;omega) (R:=CH) hw;rw[PD]at hA;exact hA
theorem H7(n k:Nat)(hn:n<=5):Nm n k []:=⟨hn,.inl rfl,⟨1,0,⟨by decide,fun q h=>by cases h⟩,Nat.one_le_two_pow,zero_le _⟩⟩
theorem Ny:AL aF.as:=by
 have h1:∀q:Rat,Qb 1000 q->NR [rt q] 4000:=fun q h=>Nm.rt (n:=0) (e:=4000) (l:=[q]) ⟨by omega,.inr ⟨0,le_refl _,rfl⟩,(Cb.one h).mono oz⟩ (by decide)
 have h0:NR [] 4000:=Nm.rt (n:=0) (e:=4000) (l:=[]) (H7 0 4000 oz) (by decide);have hq:∀q:Rat,q.num.natAbs<2^5/\q.den<2^5->Qb 1000 q:=fun q h=>Qb.mono (e:=5) h oz
 refine⟨(BF.tr).mono oz oz,?_,by decide,by decide⟩;intro b hb x hx;simp only[aF,Aq.as,map_cons,map_nil,mem_cons,not_mem_nil,or_false]at hb;rcases hb with rfl |rfl |rfl |rfl <;> simp only[Pl.l,Pq.pl,map_cons,map_nil,mem_cons,not_mem_nil,or_false]at hx <;> rcases hx with rfl |rfl |rfl |rfl <;> first |exact h0 |exact h1 _ (hq _ (by decide +kernel))
theorem QN:FP 52 [aF.av,i64 2,(rt ((5:Int):Rat)).av,(rt 0).av] (.tup [ao [-2] [],bn 0]):=by
 have h:=RH aF.as Ny 2 (rt ((5:Int):Rat)) (rt 0) (mZ (n:=5) oz).ok Qs.zero.ok (by rw[bt];exact Qb.mono (e:=5) (q:=((5:Int):Rat)) ⟨by decide,by decide⟩ oz) (by rw[bt];exact Qb.zero.mono oz);rw[aF.as_av]at h;have e1:o5 aF.as 2 (rt ((5:Int):Rat)) (rt 0)=[-2]:=by decide +kernel
 have e2:qe aF.as 2 (rt ((5:Int):Rat)) (rt 0)=[]:=by decide +kernel
 have e3:jx aF.as 2=0:=by decide +kernel
 unfold Ex at h;rw[e1,e2,e3]at h;exact h
theorem KZ:Sub (.lst 4 [.agg [.v (.bool false),nS,nS,.v (.bool false)]]) (.lst 4 [iP.av]) :=
 Sub.lst rfl (fun i x y hx hy=>by
  match i,hx,hy with
  |0,hx,hy=>cases hx;cases hy;exact .ofL (.cons (.refl _) (.cons (.nil _ _ _) (.cons (.nil _ _ _) (.cons (.refl _) .nil)))) rfl)
theorem Jg:FP 30 [] (bl true):=by
 have hAll:=LW;have nx:Nm 0 10 [(-2:Rat)]:=⟨by omega,.inr ⟨0,le_refl _,rfl⟩,Cb.mono (Cb.int (z:=-2) (e:=2) (by decide)) oz⟩
 have n0:Nm 0 10 []:=H7 0 10 oz;have hE:=Qu (ts:=[]) BF nx n0 nx n0 (by decide);rw[nF,nF]at hE;have hOf:=yf (x:=((-2:Int):Rat)) (y:=0) (mZ (n:=-2) oz) Qs.zero;rw[show sh 0 (((-2:Int):Rat):Rat)=[-2] by decide +kernel,show sh 0 (0:Rat)=[] by decide +kernel]at hOf;refine af func30 ?_;refine gc O6 ?_;refine gc (Con.sA (.cons (.refl _) (.cons KZ .nil)) hAll) ?_;refine U7 (fun _=>rfl) ?_;refine mb (fun _=>(rfl)) ?_;refine bI (fun _=>(B0 [1,0] (by decide))) ?_;refine gC (fun t27=>?_) (fun t27=>?_) (st1:=(3,0));cases t27;refine gi (rfl) ?_;refine gc (kP 5 oz) ?_;refine gc (Con.sA (.cons (.refl _) (.cons (.refl _) (.cons (.refl _) (.cons gT .nil)))) QN) ?_;refine gD ?_;refine mb (fun _=>(rfl)) ?_;refine bI (fun _=>(kP (-2) oz)) ?_;refine bI (fun _=>(Con.sA (.cons (.refl _) (.cons gT .nil)) hOf)) ?_;refine bI (fun _=>hE) ?_;refine gD ?_;refine ae ?_;rfl
theorem G7{l:Li}{xs:List Tn}(h:kp l xs=true)(hxw:∀x∈xs,x.t.wok):gX l=true/\xs.length<=20/\∀x∈xs,x.t.ok:=by
 unfold kp at h;simp only[and_eq_true,decide_eq_true_eq]at h;refine⟨h.1.1,h.1.2,fun x hx=>?_⟩;have h9:=List.all_eq_true.1 h.2.1 x hx;unfold lX at h9;rw[decide_eq_true_eq]at h9;exact(hxw x hx).ok h9.1 h9.2 oz
structure AsmP(l:Li)(xs:List Tn)(A:List Aq)(e:Nat):Prop where
  eq:yV l xs=(A,e)
  all:FP 33 [l.av,.lst 4 (xs.map Tn.av)] (.tup [.lst 3 (A.map Aq.av),bn e])
  cnt:FP 41 [l.av,.lst 4 (xs.map Tn.av)] (.tup [i64 A.length,bn e])
  ref:aE l=0->FP 43 [l.av,.lst 4 (xs.map Tn.av)] (.tup [.lst 3 (A.map Aq.av),i64 e])
  bad:aE l≠0->A=[]/\e=aE l
  ok:∀a∈A,AqOk a
  ln:A.length<=1000
theorem JP{l:Li}(hl:l.ok){xs:List Tn}(hL:kp l xs=true)(hxw:∀x∈xs,x.t.wok):∃A e,AsmP l xs A e:=by
 obtain⟨_,hx20,hxo⟩:=G7 hL hxw;have hop:=ES l hl xs hxo oz
 by_cases h0:cR l xs=0
 ·obtain ⟨s, g, W, St⟩:=Kk hL hl hxw h0;have hsl:=jQ W.li;have hlb:=(da W.li).2.2.2;have hp:2 ^ (aR l).length <= 256:=le_trans (bP (b:=8) oz) (by decide);have hw:=yw W fA false (fo:=189) (caps:=[]) (fun k m _=>Ft k m) (aR l).length (fq l) St [] (by simp only [length_nil]; omega);have hA:=GZ h0 hop oz oz (R:=pP fA false l xs) hw;have hlen:=ut W fA false (aR l).length (fq l) St;have hm:=FX W (F:=fA) (sg:=false) (aR l).length (fq l) St;have hB:=Dp l hl W.li xs hxo oz;rw [h0] at hB;have hR:=U6 hl W.li hB (F9 W (aR l).length (fq l) St oz);refine ⟨_,_,⟨?_,hA,IW hA,fun _=>hR,fun h=>absurd W.li h,?_,?_⟩⟩
  ·unfold yV;rw[if_neg (fun h=>h h0)]
   by_cases hE:(pP fA false l xs).2≠0
   ·rw[if_pos hE,if_pos hE]
   ·rw[if_neg hE,if_neg hE]
  ·intro a ha;split at ha
   ·cases ha
   ·exact(hm a ha).aq W.li
  ·split
   ·exact zero_le _
   ·exact le_trans hlen oz
 ·have hA:=Ta h0 hop;refine ⟨[],cR l xs,⟨?_,hA,IW (A:=[]) hA,fun h=>MX h0 (Dp l hl h xs hxo oz),fun h=>⟨rfl,?_⟩,(fun a ha=>by cases ha),zero_le _⟩⟩
  ·unfold yV;rw[if_pos h0]
  ·unfold cR;rw[if_pos h]
theorem Qr{p:Bool}(h:cond (!true) true (!p)=false):p=true:=by cases p <;> simp_all
theorem Kv(l:Li)(hw:l.okw)(xs:List Tn)(hxw:∀x∈xs,x.t.wok)(hxl:xs.length<=281474976710656):FP 7 [l.av,.lst 4 (xs.map Tn.av)] (bl true):=by
 refine af func7 ?_;refine gc Jg ?_;refine bI (fun _=>(Pg l hw xs hxl)) ?_;refine gC (fun t19=>?_) (fun t19=>?_)
 ·refine gc Jg ?_;refine ae ?_
  first |rfl |(simp;done)
 have h1:=Qr t19;have hl:=AH (G7 h1 hxw).1 hw;obtain⟨A,e,P⟩:=JP hl h1 hxw;have hAl:=P.ln;refine gc P.all ?_;refine gc P.cnt ?_;refine gc (I0 l hl) ?_;refine gC (fun t36=>?_) (fun t36=>?_)
 ·have h2:aE l≠0:=dR t36;obtain⟨e1,e2⟩:=P.bad h2;subst e1;subst e2;refine gl ?_;refine bI (fun _=>(v6 (aE l))) ?_;refine bI (fun _=>(v6 (aE l))) ?_;refine ae ?_;simp[aa];rfl
 have h2:aE l=0:=dz t36;refine gc (P.ref h2) ?_;refine gc (v6 e) ?_;refine bI (fun _=>(v6 e)) ?_;refine bZ ?_;refine bI (fun _=>(TH P.ok hAl)) ?_;refine ae ?_;simp[aa];rfl
open Go.Proofs Go.Proofs.YtlilpljpajeafaaGreat
open Go.ChangeShapes Go.WideShapes Go.ChangeAt Go.RowKit
set_option maxRecDepth 100000 in
theorem Tk(os:Os)(started:os.Started)(H:Type)(enc:TypeId×Value->H) :
  ReturnsInHanded {} Tryz.checked os 7 .any (Rows.assembleAllsSpec.pre6 enc prog Tryz.f7 Rows.assembleAllsRow.domain false) (Rows.assembleAllsSpec.post enc prog Tryz.f7 false true false false):=by
 refine returnsInHanded_of_change_sized (C := Tryz.checked) own started (by kernel_rfl) func7
  (ChangeSpec.witness6 (enc:=enc) (C:=Tryz.checked) false ⟨#[],#[.agg #[.string ⟨#[]⟩,.slice none 0 0,.slice none 0 0,.slice none 0 0],.slice none 0 0],[]⟩ 8 (by kernel_rfl) (by kernel_rfl) (by kernel_rfl) (by kernel_rfl)) ?_
 intro W base args ds gs before hval0 hW hcnd hwt0 _;have hval:∀(j:Nat) t v,Tryz.f7.params[j]?=some t->args[j]?=some v->Value.okWide prog W .any base t v:=hval0;have hwt:(DataW.weightsEach prog (Tryz.f7.params.toList++Rows.assembleAllsSpec.plain.varTypes prog) (ds++gs)).all (· <= reachBytes)=true:=hwt0;have hW':=hW;obtain⟨p,q,hA0,hV,rfl,hfz,hnd⟩:=hW;have hA:DataW.TrodAll enc prog W 0 (fun _=>true) true Tryz.f7.params.toList args.toList ds p:=hA0;rw[Tryz.params7]at hA hval hwt;obtain⟨v0,v1,d0,d1,p0,p1,rfl,rfl,rfl,h0,h1⟩:=trodAll_two hA;obtain⟨rfl,rfl⟩:=trodVars_none hV;clear hA0 hval0 hwt0;have hlt:∀x∈p0++p1,x.block<W.heap.size:=fun x hx=>hW'.lt x (by simpa using hx)
 have hw0:∀n∈d0.weights prog 26,n<=reachBytes:=fun n hn=>by
  have:=List.all_eq_true.1 hwt n (DataW.weights_mem_each (j:=0) rfl rfl n hn);simpa using this
 have hw1:∀n∈d1.weights prog 84,n<=reachBytes:=fun n hn=>by
  have:=List.all_eq_true.1 hwt n (DataW.weights_mem_each (j:=1) rfl rfl n hn);simpa using this
 obtain⟨x0,q0,r0⟩:=Lp Tryz.underlying26 MV (hval 0 26 v0 rfl rfl) h0 hw0;obtain⟨x1,q1,r1⟩:=QD Ui (fun _=>rfl) (M7 Tryz.underlying84 (hval 1 84 v1 rfl rfl)) h1 hw1
 have hc:=ik.calls (W:=W) (vs:=#[v0,v1]) (Kv x0 q0 x1 q1.1 q1.2) rfl (fun j v x hv hx=>by
  match j,hv,hx with
  |0,hv,hx=>cases hv;cases hx;exact r0
  |1,hv,hx=>cases hv;cases hx;exact r1)
 refine hc.mono fun e W' ⟨he,hb⟩=>?_
 subst he;refine⟨_,rfl,KN hW' rfl rfl (fun _ _ _=>trodAll_mk1 (shut_bool Tryz.underlying4 _)) (fun sp hsp=>?_) rfl hb (ok_one (by kernel_rfl) rfl (okWide_bool_mk Tryz.underlying4 _))⟩;rw[Tryz.params7];have hs:∀x∈p0++p1,sp x.block=true:=fun x hx=>hsp x (by simpa using hx)
 have g0:=HQ (sp':=sp) (by kernel_rfl) (of_decide_eq_true (by kernel_rfl)) h0 hb (fun x hx=>hlt x (by simp[hx])) (fun x hx=>hs x (by simp[hx]));have g1:=HQ (sp':=sp) (by kernel_rfl) (of_decide_eq_true (by kernel_rfl)) h1 hb (fun x hx=>hlt x (by simp[hx])) (fun x hx=>hs x (by simp[hx]));have g:=trodAll_mk2 g0 g1;rw[show p0++p1++[]=p0++p1 from by simp];exact g
set_option maxRecDepth 100000 in
theorem Kj:prog.closure 7=[7,30,55,127,234,85,175,282,362,176,174,195,292,364,293,279,280,360,390,365,392,295,391,294,281,361,393,296,33,99,135,238,118,211,313,368,369,395,212,215,316,318,372,374,371,389,396,397,346,398,399,402,400,401,352,248,247,317,320,373,213,314,315,370,319,332,378,214,334,379,403,411,405,414,415,413,380,404,412,407,406,381,239,335,119,216,189,101,142,246,350,351,376,377,126,233,331,232,326,269,330,100,190,287,288,191,17,61,121,227,228,327,273,357,274,358,355,272,244,348,136,240,336,137,242,347,241,337,343,387,338,382,339,383,384,340,385,386,408,341,342,344,345,138,243,62,139,245,252,349,388,409,140,141,159,88,86,177,54,178,231,164,328,229,163,230,329,160,179,122,143,158,251,77,161,124,125,68,153,271,356,74,162,72,75,144,63,67,155,146,145,249,353,250,70,147,156,262,263,264,267,157,53,123,265,260,256,266,257,253,254,255,354,258,259,261,151,268,270,148,154,64,71,87,149,65,78,165,73,79,76,150,152,192,289,48,52,93,37,103,194,193,290,291,363,196,104,197,297,81,23,83,169,89,180,277,170,182,283,278,181,183,105,171,172,199,31,57,32,95,185,285,284,286,96,186,97,187,188,51,107,98,15,59,131,60,132,236,133,237,333,134,94,184,41,42,43,34,102,110,36,109,113,112,200,27,90,299,201,300,301,166,202,29,92,276,359,84,173,275,302,303,168,24,167,38,108,106,198,298,39,203,28,91,304,312,25,305,366,306,307,308,367,394,410,309,207,204,310,311,205,206,114,44,47,115,20]:=by kernel_rfl
theorem PA:joinedFacts prog 7 Tryz.f7 Rows.assembleAllsSpec Rows.assembleAllsRow=true:=by
 unfold joinedFacts Program.recurses Program.inPlace Program.unfollowed Program.varsNamed;rw[Kj,GT,Ut,Uu,UG,Vc,ME]
 kernel_rfl
theorem assembleAlls_holds:Rows.AssembleAllsSaid :=
 OpenClaim.holds_of_wide 7 Tryz.f7 rfl rfl rfl rfl rfl rfl rfl ⟨rfl, rfl, rfl, rfl, rfl⟩ rfl rfl rfl rfl rfl (by kernel_rfl) func7 PA
  (of_decide_eq_true (by kernel_rfl)) (by unfold Func.isWrapper;first |(rw[if_pos (by decide +kernel)];kernel_rfl) |(rw[if_neg (by decide +kernel)];exact⟨rfl,rfl⟩))
  (fun os started H enc _=>Tk os started H enc)
end Go.Lw
namespace Go.Proofs.YtlilpljpajeafaaGreat
theorem assembleAlls_proved:Rows.AssembleAllsSaid:=Go.Lw.assembleAlls_holds
end Go.Proofs.YtlilpljpajeafaaGreat
