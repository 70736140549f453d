/- ModesFrame: for any linkage and any turns the law returns true and leaves its arguments as they were. No other condition. Part 7 of 8: what the later parts need -/
import Derived.Test.YtpdiojikejnehaaGreatWf
set_option linter.unusedVariables false
open List (mem_of_getElem? mem_cons_of_mem mem_append map_cons mem_cons length_cons foldl_cons mem_cons_self length_append length_nil getD_eq_getElem?_getD getElem?_take getElem?_map append_assoc getElem?_eq_getElem nil_append getElem?_replicate append_nil map_append length_take take_of_length_le drop_zero take_length map_nil not_mem_nil length_map getElem?_of_mem map_map map_id map_replicate map_set length_set range_succ)
open Nat (eq_of_beq_eq_true le_refl lt_or_ge le_trans mul_le_mul_right zero_le pow_add)
open Option (map_eq_some_iff)
open Bool (and_eq_true or_eq_true)
open Int (toNat_natCast)
open Go.Proofs.Tryz
namespace Go.Lw
open Go.Proofs
theorem EB{ts:LL}{r e:Nat}(tw:Tw ts r){a b c:List Rat}(ha:Nm ts.length e a)(hb:Nm ts.length e b)(hc:Nm ts.length e c)(he:2*(e+e+kB r ts.length)<=lm ts.length) :
  FP 162 [aN ts,nA a,aI b c] (.tup [aI (sh ts.length (T.mul (am ts) ts.length (ae ts.length a) (ae ts.length b))) (sh ts.length (T.mul (am ts) ts.length (ae ts.length a) (ae ts.length c))),.v .nilIface]):=by
 refine ah func162 ?_;refine gc (uv (e:=e) tw [a,b,c] (by simp only[mem_cons,not_mem_nil,or_false];rintro x (rfl |rfl |rfl) <;> assumption) oz (by simp)) ?_;refine gC (fun t19=>?_) (fun t19=>?_) (st1:=(3,0));cases t19;refine gt (aA (Con.rB 24 rfl rfl rfl rfl (lg tw ha hb oz)) (aG rfl rfl rfl) aC rfl rfl) ?_;refine gt (aA (Con.rB 24 rfl rfl rfl rfl (lg tw ha hc oz)) (aG rfl rfl rfl) aC rfl rfl) ?_;refine gt (aA (Con.rB 24 rfl rfl rfl rfl (wc _ _ _)) (bp rfl rfl) aC rfl rfl) ?_;refine gD ?_;refine br ?_;rfl
section
variable{ts:LL}
def sS(q w1 w2 h:Et ts):Et ts:=q*w1-h*-w2
def sV(q w1 w2 h:Et ts):Et ts:=q*w2-h*w1
def n6(ts:LL)(q h d:List Rat)(w:List Rat×List Rat):P2 ts:=(sS (dE ts q) (dE ts w.1) (dE ts w.2) (dE ts h)*iE (dE ts d),sV (dE ts q) (dE ts w.1) (dE ts w.2) (dE ts h)*iE (dE ts d))
structure Rp where
  v:Rat×Rat
  p:Rat×Rat
  a:List Rat×List Rat
  h:List Rat
  d:List Rat
  w:List Rat×List Rat
def qz(ts:LL)(R:Rp)(q:List Rat):Pq:=gL R.v (n6 ts q R.h R.d R.w) R.p (dE ts R.a.1,dE ts R.a.2)
structure RqP(ts:LL)(R:Rp)(q:List Rat):Prop where
  sm:Sm 3000 R.v
  sp:Sm 3000 R.p
  c1:FP 162 [aN ts,nA q,aI R.w.1 R.w.2] (.tup [aI (sX (dE ts q*dE ts R.w.1)) (sX (dE ts q*dE ts R.w.2)),.v .nilIface])
  ng:FP 147 [aN ts,nA R.w.2] (.tup [nA (sX (-dE ts R.w.2)),.v .nilIface])
  c2:FP 162 [aN ts,nA R.h,aI (sX (-dE ts R.w.2)) R.w.1] (.tup [aI (sX (dE ts R.h*-dE ts R.w.2)) (sX (dE ts R.h*dE ts R.w.1)),.v .nilIface])
  sb:FP 76 [aN ts,aI (sX (dE ts q*dE ts R.w.1)) (sX (dE ts q*dE ts R.w.2)),aI (sX (dE ts R.h*-dE ts R.w.2)) (sX (dE ts R.h*dE ts R.w.1))] (.tup [aI (sX (sS (dE ts q) (dE ts R.w.1) (dE ts R.w.2) (dE ts R.h))) (sX (sV (dE ts q) (dE ts R.w.1) (dE ts R.w.2) (dE ts R.h))),.v .nilIface])
  d1:FP 281 [aN ts,nA (sX (sS (dE ts q) (dE ts R.w.1) (dE ts R.w.2) (dE ts R.h))),nA R.d] (.tup [nA (sX (n6 ts q R.h R.d R.w).1),.v .nilIface])
  d2:FP 281 [aN ts,nA (sX (sV (dE ts q) (dE ts R.w.1) (dE ts R.w.2) (dE ts R.h))),nA R.d] (.tup [nA (sX (n6 ts q R.h R.d R.w).2),.v .nilIface])
  e1:sX (dE ts R.a.1)=R.a.1
  e2:sX (dE ts R.a.2)=R.a.2
  b:BdP ts R.v (n6 ts q R.h R.d R.w) R.p (dE ts R.a.1,dE ts R.a.2)
theorem RqP.body{R:Rp}{q:List Rat}(H:RqP ts R q) :
  Con prog 152 [.ptr 1000 0,qP R.v,dc (n6 ts q R.h R.d R.w).l,qP R.p,aI R.a.1 R.a.2] [(1000,some (a6 ts))] (qz ts R q).av [(1000,some (a6 ts))]:=by
 have hb:=yk H.sm H.sp H.b
 have e:dc (P2.l ((dE ts R.a.1,dE ts R.a.2):P2 ts))=aI R.a.1 R.a.2:=by
  show aI (sX (dE ts R.a.1)) (sX (dE ts R.a.2))=_;rw[H.e1,H.e2]
 rw[e]at hb;exact hb
theorem En{R:Rp}{q:List Rat}{j:Nat}(cy:Cy ts 773000000 1101400000)(sm:Sm 3000 R.v)(sp:Sm 3000 R.p)(h0:b7 R.v R.v≠0)(nq:Nm ts.length 773000000 q)(nh:Nm ts.length 773000000 R.h)(nd:Nm ts.length 773000000 R.d)
  (n1:Nm ts.length 773000000 R.w.1) (n2:Nm ts.length 773000000 R.w.2) (a1:Nm ts.length 773000000 R.a.1) (a2:Nm ts.length 773000000 R.a.2) (e1:sX (dE ts R.a.1)=R.a.1) (e2:sX (dE ts R.a.2)=R.a.2)
  (nj:Nl j R.d) (hj:j<=ts.length) (hj1:j<=1) (hd:ak (dE ts R.d)≠0):RqP ts R q:=by
 obtain⟨r,tw,hk⟩:=cy.ex;have hl:=cy.lm;haveI:=cy;haveI zq:Zl ts 773000000 1101400000 q (dE ts q) 1 0:=Zl.at nq (le_refl _);haveI zh:Zl ts 773000000 1101400000 R.h (dE ts R.h) 1 0:=Zl.at nh (le_refl _);haveI zd:Zl ts 773000000 1101400000 R.d (dE ts R.d) 1 0:=Zl.at nd (le_refl _);haveI z1:Zl ts 773000000 1101400000 R.w.1 (dE ts R.w.1) 1 0:=Zl.at n1 (le_refl _);haveI z2:Zl ts 773000000 1101400000 R.w.2 (dE ts R.w.2) 1 0:=Zl.at n2 (le_refl _);haveI:=zq.zu;haveI:=zh.zu;haveI:=z1.zu;haveI:=z2.zu
 haveI zn:Zu 773000000 1101400000 (-dE ts R.w.2) 1 0:=inferInstance;haveI y1:Zu 773000000 1101400000 (dE ts q*dE ts R.w.1) 2 1:=inferInstance;haveI y2:Zu 773000000 1101400000 (dE ts q*dE ts R.w.2) 2 1:=inferInstance;haveI y3:Zu 773000000 1101400000 (dE ts R.h*-dE ts R.w.2) 2 1:=inferInstance;haveI y4:Zu 773000000 1101400000 (dE ts R.h*dE ts R.w.1) 2 1:=inferInstance;haveI x1:Zu 773000000 1101400000 (sS (dE ts q) (dE ts R.w.1) (dE ts R.w.2) (dE ts R.h)) 4 3:=(inferInstance:Zu 773000000 1101400000 (dE ts q*dE ts R.w.1-dE ts R.h*-dE ts R.w.2) 4 3)
 haveI x2:Zu 773000000 1101400000 (sV (dE ts q) (dE ts R.w.1) (dE ts R.w.2) (dE ts R.h)) 4 3:=(inferInstance:Zu 773000000 1101400000 (dE ts q*dE ts R.w.2-dE ts R.h*dE ts R.w.1) 4 3)
 have ew:∀x:Et ts,ae ts.length (sX x)=x:=fun x=>a7 _ _
 have hkB:kB r ts.length<=1101400000:=hk;have c1:=EB tw nq n1 n2 (by rw[hl];omega);have ng:=It (ts:=ts) (u:=773000000) (k:=1101400000) (a:=R.w.2) (by decide);have nn:Nm ts.length 773000000 (sX (-dE ts R.w.2)):=zn.nm.mono (by decide);have c2:=EB tw nh nn n1 (by rw[hl];omega);rw[ew]at c2;have sb:=xy (a:=sX (dE ts q*dE ts R.w.1)) (b:=sX (dE ts q*dE ts R.w.2)) (c:=sX (dE ts R.h*-dE ts R.w.2)) (d:=sX (dE ts R.h*dE ts R.w.1)) tw y1.nm y2.nm y3.nm y4.nm (by rw[hl];decide);rw[ew,ew,ew,ew]at sb;have d1:=p4 (ts:=ts) (u:=773000000) (k:=1101400000) (a:=sX (sS (dE ts q) (dE ts R.w.1) (dE ts R.w.2) (dE ts R.h))) (b:=R.d) nj hj hj1 hd (by decide);have d2:=p4 (ts:=ts) (u:=773000000) (k:=1101400000) (a:=sX (sV (dE ts q) (dE ts R.w.1) (dE ts R.w.2) (dE ts R.h))) (b:=R.d) nj hj hj1 hd (by decide);exact⟨sm,sp,c1,ng,c2,sb,d1.1,d2.1,e1,e2,HI tw cy.two hkB sm sp h0 (d1.2.nm.mono (by decide)) (d2.2.nm.mono (by decide)) (by show Nm ts.length 773000000 (sX (dE ts R.a.1));rw[e1];exact a1) (by show Nm ts.length 773000000 (sX (dE ts R.a.2));rw[e2];exact a2)⟩
end
def jC(ts:LL)(R:Rp)(qs:LL)(i:Nat):Sv:=⟨ts,[qz ts R (qs.getD i [])],if qs.length=1 then 0 else 1-2*(i:Int)⟩
def ko(ts:LL)(R:Rp)(qs:LL)(n:Nat):List AV:=(List.range n).map fun i=>(jC ts R qs i).av
theorem z8(ts:LL)(R:Rp)(qs:LL)(n:Nat):(ko ts R qs n).length=n:=by simp[ko]
theorem VW(ts:LL)(R:Rp)(qs:LL)(n:Nat):ko ts R qs (n+1)=ko ts R qs n++[(jC ts R qs n).av]:=by unfold ko;rw[range_succ];simp
def d8(l:Li)(a:As)(i:Int)(j0 j:Jt):Rp:=⟨dl l i j,aj l j0 i,P2.l (aK l a j0 i),sh 0 (cR l i j0 j:Rat),sX (cI l a i j0 j),P2.l (cq l a i j0 j)⟩
def bi(l:Li)(a:As)(i:Int)(j0 j:Jt):Et (llq a.rs):=qE (jS l i j)*cI l a i j0 j-qE (cR l i j0 j)*qE (cR l i j0 j)
def kQ(l:Li)(a:As)(i:Int)(j0 j:Jt):List AV×Nat :=
  if ak (cI l a i j0 j)=0/\ak (qE (cR l i j0 j):Et (llq a.rs))=0 then([],15)
  else if ak (bi l a i j0 j)<0 then([],0)
  else if 0<ak (bi l a i j0 j)then(ko (aL (llq a.rs) (sX (bi l a i j0 j))) (d8 l a i j0 j) [cm (llq a.rs).length,sX (-bC (bi l a i j0 j))] 2,0)
  else(ko (llq a.rs) (d8 l a i j0 j) [[]] 1,0)
theorem vA{ts:LL}{r:Nat}(tw:Tw ts r){n d h:Et ts}(hs:¬ak (n*d-h*h)<0)(h1:¬(ak d=0/\ak h=0)):ak d≠0:=by
 intro h0;have S:=gE (am ts) ts.length tw.pos
 have e1:sg (am ts) ts.length (n*d)=0:=by
  rw[S.mul];have:sg (am ts) ts.length d=0:=h0;rw[this];exact Int.mul_zero _
 have e2:=S.zadd (y:=-(h*h)) e1;rw[show n*d+-(h*h)=n*d-h*h by grind,S.neg,S.mul]at e2;have e3:ak (n*d-h*h)=sg (am ts) ts.length (n*d-h*h):=rfl;have e4:ak h=sg (am ts) ts.length h:=rfl;have h2:sg (am ts) ts.length h≠0:=fun h9=>h1 ⟨h0,by rw[e4];exact h9⟩
 rw[e3,e2]at hs;rcases S.cs h with g |g |g
 ·rw[g]at hs;exact hs (by decide)
 ·exact h2 g
 ·rw[g]at hs;exact hs (by decide)
theorem L5{p q:Rat}(h:p*p+q*q=0):p=0/\q=0:=by
 have h1:=ol p;have h2:=ol q;have h3:p*p=0:=by grind
 have h4:q*q=0:=by grind
 exact⟨by rcases Rat.mul_eq_zero.1 h3 with g |g <;> exact g,by rcases Rat.mul_eq_zero.1 h4 with g |g <;> exact g⟩
theorem BE{l:Li}(hli:ax l=0){n:Nat}{j:Jt}(hj:l.jo[n]?=some j)(hk:j.kind≠0){i:Int}(hi:j.b=i):b7 (dl l i j) (dl l i j)≠0:=by
 intro h0;obtain⟨h1,h2⟩:=L5 h0;have h3:=Cl hli hj;subst hi;have e1:(aX l j.b j.to).1-(aX l j.b j.on).1=0:=h1;have e2:(aX l j.b j.to).2-(aX l j.b j.on).2=0:=h2;have e3:((cF l j.b).getD j.on.toNat default).x.q=((cF l j.b).getD j.to.toNat default).x.q:=by unfold aX at e1;dsimp only at e1;grind
 have e4:((cF l j.b).getD j.on.toNat default).y.q=((cF l j.b).getD j.to.toNat default).y.q:=by unfold aX at e2;dsimp only at e2;grind
 unfold d6 at h3;split at h3
 ·cases h3
 ·split at h3
  ·cases h3
  ·split at h3
   ·cases h3
   ·split at h3
    ·cases h3
    ·split at h3
     ·cases h3
     ·first |(rw[if_pos ⟨e3,e4⟩]at h3;cases h3) |(split at h3 <;> first |(cases h3;done) |(rename_i g;exact absurd ⟨e3,e4⟩ g))
theorem Lj:Sub (.lst 1 [nS]) (.lst 1 [nA []]):=by
 refine Sub.lst rfl (fun i x y hx hy=>?_)
 match i,hx,hy with
 |0,hx,hy =>
  cases hx;cases hy
  refine⟨rfl,fun j x y hx hy=>?_⟩
  match j,hx,hy with
  |0,hx,hy=>cases hx;cases hy;exact⟨rfl,.nil _ _ _⟩
theorem Ny{x y:Int}(h:cond (aa .eql x 0) (aa .eql y 0) false=true):x=0/\y=0:=by
 cases h1:aa .eql x 0
 ·rw[h1]at h;cases h
 ·rw[h1]at h;exact⟨cD h1,cD h⟩
theorem Ni{x y:Int}(h:cond (aa .eql x 0) (aa .eql y 0) false=false):¬(x=0/\y=0):=by
 rintro⟨rfl,rfl⟩;cases h
structure RpF(l:Li)(a:As)(i:Int)(j0 j:Jt):Prop where
  hv:Sm 3000 (dl l i j)
  hp:Sm 3000 (aj l j0 i)
  vv:b7 (dl l i j) (dl l i j)≠0
  zl:Zl (llq a.rs) 310000 65000 (sh 0 (cR l i j0 j:Rat)) (qE (cR l i j0 j)) 3 0
  z3:Zu 310000 65000 (cI l a i j0 j) 320 327
  zX:Zu 310000 65000 (bi l a i j0 j) 976 989
  w1:Zu 310000 65000 (cq l a i j0 j).1 80 81
  w2:Zu 310000 65000 (cq l a i j0 j).2 80 81
  y1:Zu 310000 65000 (aK l a j0 i).1 40 40
  y2:Zu 310000 65000 (aK l a j0 i).2 40 40
theorem IF{l:Li}{a:As}(D:DyR l a)(hn:(llq a.rs).length<=1){g:Gr}{i z0 z1:Int}{j0 j:Jt}(P:SlP 3900000 l a g 3 i z0 z1 j0 j)(hj:j.b=i)(hb:Pd 3900000 a j.a):RpF l a i j0 j:=by
 haveI c:=D.s.ct D.hc;have ck:=c.k1;haveI cy:Cy (llq a.rs) 310000 65000:=⟨c.ex,c.k1,c.u3,by omega⟩
 have hs0:Sm 1000 (aj l j0 i):=gj D.hl D.li P.h0 P.p0.or;obtain⟨i1,i2,i3,i4,i5⟩:=cZ D.li P.h1;have hs1:Sm 1000 (aX l i j.on):=by rw[<- hj];exact jX D.hl D.li i2 i4
 have hs2:Sm 1000 (aX l i j.to):=by rw[<- hj];exact jX D.hl D.li i2 (i5 P.hk)
 have hv:Sm _ (dl l i j):=hs2.sub hs1;haveI qn:Qz 310000 (jS l i j) 3:=s6 (hv.dot hv) oz;haveI qh:Qz 310000 (cR l i j0 j) 3:=s6 (hv.cross (hs1.sub hs0)) oz;obtain⟨w1,w2⟩:=Gt D P.h0 P.p0 P.h1 hb;obtain⟨y1,y2⟩:=lM D.hl D.li D.al D.s D.hc P.h0 P.p0;haveI:=w1;haveI:=w2
 haveI z3:Zu 310000 65000 (cI l a i j0 j) 320 327:=(inferInstance:Zu 310000 65000 (dotE (cq l a i j0 j).1 (cq l a i j0 j).2 (cq l a i j0 j).1 (cq l a i j0 j).2) _ _)
 exact⟨hv.mono oz,hs0.mono oz,BE D.li P.h1 P.hk hj,Cy.zq,z3,A9 (inferInstance:Zu 310000 65000 (qE (jS l i j)*cI l a i j0 j-qE (cR l i j0 j)*qE (cR l i j0 j)) _ _) (by decide) (by decide),w1,w2,y1,y2⟩
theorem H4{l:Li}{a:As}{i:Int}{j0 j:Jt}(F:RpF l a i j0 j)(tw:Tw (llq a.rs) 64990)(hn:(llq a.rs).length<=1)(hd0:ak (cI l a i j0 j)≠0)(hp:0<=ak (bi l a i j0 j)) :
  ExtP (bi l a i j0 j)/\RqP (aL (llq a.rs) (sX (bi l a i j0 j))) (d8 l a i j0 j) (cm (llq a.rs).length)/\RqP (aL (llq a.rs) (sX (bi l a i j0 j))) (d8 l a i j0 j) (sX (-bC (bi l a i j0 j))) /\
  FP 147 [aN (aL (llq a.rs) (sX (bi l a i j0 j))),nA (cm (llq a.rs).length)] (.tup [nA (sX (-bC (bi l a i j0 j))),.v .nilIface]):=by
 have E:ExtP (bi l a i j0 j):=rQ tw hn F.zX hp;have ce:=E.cy;have zr:Nm (aL (llq a.rs) (sX (bi l a i j0 j))).length 773000000 (cm (llq a.rs).length):=(rO oz).mono (by decide);haveI zrl:Zl (aL (llq a.rs) (sX (bi l a i j0 j))) 773000000 1101400000 (cm (llq a.rs).length) (bC (bi l a i j0 j)) 1 0:=Zl.at zr (by decide);haveI:=zrl.zu;have hng:=It (ts:=aL (llq a.rs) (sX (bi l a i j0 j))) (u:=773000000) (k:=1101400000) (a:=cm (llq a.rs).length) (by decide);have zn:Nm (aL (llq a.rs) (sX (bi l a i j0 j))).length 773000000 (sX (-bC (bi l a i j0 j))):=(inferInstance:Zu 773000000 1101400000 (-bC (bi l a i j0 j)) 1 0).nm.mono (by decide)
 have hR:∀q,Nm (aL (llq a.rs) (sX (bi l a i j0 j))).length 773000000 q->RqP (aL (llq a.rs) (sX (bi l a i j0 j))) (d8 l a i j0 j) q:=fun q nq =>
  En (R := d8 l a i j0 j) (j := (llq a.rs).length) ce F.hv F.hp F.vv nq (lV (F.zl.nm.mono (by decide)) oz) (lV (F.z3.nm.mono (by decide)) oz) (lV (F.w1.nm.mono (by decide)) oz) (lV (F.w2.nm.mono (by decide)) oz)
   (lV (F.y1.nm.mono (by decide)) oz) (lV (F.y2.nm.mono (by decide)) oz) (uA hn _ _ F.y1.nm).2 (uA hn _ _ F.y2.nm).2 F.z3.nm.nl (by rw[dD];omega) hn (by rw[show ak (dE (aL (llq a.rs) (sX (bi l a i j0 j))) (d8 l a i j0 j).d)=ak (cI l a i j0 j)from oJ];exact hd0)
 exact⟨E,hR _ zr,hR _ zn,hng⟩
theorem F9{l:Li}{a:As}{i:Int}{j0 j:Jt}(F:RpF l a i j0 j)(tw:Tw (llq a.rs) 64990)(hn:(llq a.rs).length<=1)(hd0:ak (cI l a i j0 j)≠0):Cy (llq a.rs) 773000000 1101400000/\RqP (llq a.rs) (d8 l a i j0 j) []:=by
 have cs:Cy (llq a.rs) 773000000 1101400000:=⟨⟨64990,tw,by show kB 64990 (llq a.rs).length<=_;have:=yz hn;omega⟩,by omega,by omega,by omega⟩
 have nil0:Nm (llq a.rs).length 773000000 []:=⟨tw.five,.inl rfl,Cb.nil.mono oz⟩
 exact ⟨cs, En (R := d8 l a i j0 j) (j := (llq a.rs).length) cs F.hv F.hp F.vv nil0 (F.zl.nm.mono (by decide)) (F.z3.nm.mono (by decide)) (F.w1.nm.mono (by decide)) (F.w2.nm.mono (by decide))
   (F.y1.nm.mono (by decide)) (F.y2.nm.mono (by decide)) (zI _ _ F.y1.nm).2 (zI _ _ F.y2.nm).2 F.z3.nm.nl (le_refl _) hn (by rw[show ak (dE (llq a.rs) (d8 l a i j0 j).d)=ak (cI l a i j0 j)from congrArg ak (a7 _ _)];exact hd0)⟩
theorem Rz{l:Li}{a:As}(D:DyR l a)(hn:(llq a.rs).length<=1){i z0 z1:Int}{j0 j:Jt}(hg:GrOk l ⟨3,[i],[z0,z1],0⟩)(P:SlP 3900000 l a ⟨3,[i],[z0,z1],0⟩ 3 i z0 z1 j0 j)(hj:j.b=i)(hb:Pd 3900000 a j.a) :
  Con prog 67 [.ptr 1000 0] [(1000,some (b9 l ⟨3,[i],[z0,z1],0⟩ a))] (ph (kQ l a i j0 j)) [(1000,some (b9 l ⟨3,[i],[z0,z1],0⟩ a))]:=by
 haveI c:=D.s.ct D.hc;obtain⟨tw,etw⟩:=cK D.s.tr D.hc;haveI cy:Cy (llq a.rs) 310000 65000:=⟨c.ex,c.k1,c.u3,by omega⟩
 have hlm:=cy.lm;have F:=IF D hn P hj hb;obtain⟨i1,i2,i3,i4,i5⟩:=cZ D.li P.h1;have hs0:Sm 1000 (aj l j0 i):=gj D.hl D.li P.h0 P.p0.or;have hs1:Sm 1000 (aX l i j.on):=by rw[<- hj];exact jX D.hl D.li i2 i4
 have hs2:Sm 1000 (aX l i j.to):=by rw[<- hj];exact jX D.hl D.li i2 (i5 P.hk)
 have hv:Sm _ (dl l i j):=hs2.sub hs1;haveI qn:Qz 310000 (jS l i j) 3:=s6 (hv.dot hv) oz;haveI qh:Qz 310000 (cR l i j0 j) 3:=s6 (hv.cross (hs1.sub hs0)) oz;haveI z3:=F.z3;haveI zX:=F.zX;haveI zl:=F.zl;have hrr:=NX D (i:=i) (j0:=j0) (j:=j) (by decide);have m1:=BT (ts:=llq a.rs) (u:=310000) (k:=65000) (a:=sX (bi l a i j0 j)) (by decide);have m2:=BT (ts:=llq a.rs) (u:=310000) (k:=65000) (a:=sX (cI l a i j0 j)) (by decide);have m3:=BT (ts:=llq a.rs) (u:=310000) (k:=65000) (a:=sh 0 (cR l i j0 j:Rat)) (by decide);refine gF func67 (fun k z h=>bB h) ?_ (2,0);refine gW (Wk.o (sl:=[(0,some (.ptr 1000 0)),(4,some (.ptr 24 0))]) (hp:=[(1000,some (b9 l ⟨3,[i],[z0,z1],0⟩ a)),(24,some (dh a.rs))])) ?_;refine gt (aA (Con.rekeyBB 1000 24 (by decide) (by decide) rfl rfl rfl rfl rfl rfl (MB D hg P.h0 P.h1 P.p0 hj P.hk hb)) (bp rfl rfl) aC rfl rfl) ?_;refine gt (aA (Con.rekeyB1 24 rfl rfl rfl rfl rfl hrr) (bp rfl rfl) aC rfl rfl) ?_ (4,0);refine gW (Wk.of (sl:=[(4,some (.ptr 24 0)),(5,some (.ptr 5 0)),(6,some (nA (sX (bi l a i j0 j))))]) (hp:=[(1000,some (b9 l ⟨3,[i],[z0,z1],0⟩ a)),(5,some (.box (tJ l a i j0 j))),(24,some (a6 (llq a.rs)))]) aQ (.k (.k (.cons rfl (BlkSub.bL (.cons (.of (l8 etw)) (.cons (.refl _) .nil)) rfl) .nil)))) ?_;refine gt (aR (Con.rB 24 rfl rfl rfl rfl m1) (bp rfl rfl) rfl rfl rfl) ?_;refine gC (fun t34=>?_) (fun t34=>?_) (st1:=(6,0));cases t34;refine gt (aR (Con.rB 24 rfl rfl rfl rfl m2) (bp rfl rfl) rfl rfl rfl) ?_;refine gu (ef rfl rfl rfl (fun h=>aR (Con.rB 24 rfl rfl rfl rfl m3) (.cons (.opt rfl (o1 h)) (.cons (.opt rfl (o1 h)) .nil)) rfl rfl rfl)) ?_;refine gC (fun t44=>?_) (fun t44=>?_)
 ·have h1:=Ny t44;refine gR ?_;exact(aw.keep (bc rfl)).sub (by unfold kQ;rw[if_pos h1];exact Sub.tup (.cons (.nil _ _ _) (.cons (.refl _) .nil)))
 have h1:=Ni t44;refine gC (fun t58=>?_) (fun t58=>?_)
 ·have h2:ak (bi l a i j0 j)<0:=of_decide_eq_true t58;refine gR ?_;exact(aw.keep (bc rfl)).sub (by unfold kQ;rw[if_neg h1,if_pos h2];exact Sub.tup (.cons (.nil _ _ _) (.cons (.refl _) .nil)))
 have h2:¬ak (bi l a i j0 j)<0:=of_decide_eq_false t58;have hd0:ak (cI l a i j0 j)≠0:=vA tw h2 h1;refine zB [4,5] [1000,5] (fun(T:LL)(qs:LL)=>[(8,some (.lst 1 (qs.map nA)))]) (fun T _=>[(24,some (a6 T))]) (fun T qs=>Cy T 773000000 1101400000/\qs.length<=2/\(∀q∈qs,RqP T (d8 l a i j0 j) q)/\kQ l a i j0 j=(ko T (d8 l a i j0 j) qs qs.length,0)) ?_ ?_
 ·intro K1 J1;refine gC (fun t63=>?_) (fun t63=>?_)
  ·have h3:0<ak (bi l a i j0 j):=of_decide_eq_true t63;obtain⟨E,R1,R2,hng⟩:=H4 F tw hn hd0 oz;have ce:=E.cy;have hex:=B6 (a:=sX (bi l a i j0 j)) tw zX.nm (by rw[hlm];decide) (by rw[show ae (llq a.rs).length (sX (bi l a i j0 j))=bi l a i j0 j from a7 _ _];show 0<=ak (bi l a i j0 j);omega);refine gc hex ?_;refine gC (fun t75=>?_) (fun t75=>?_) (st1:=(15,0));cases t75;refine gc hng ?_;refine gt (aR (Con.rB 24 rfl rfl rfl rfl (q5 _ _)) (aG rfl rfl rfl) rfl rfl rfl) ?_;exact pi J1 (aL (llq a.rs) (sX (bi l a i j0 j))) ([cm (llq a.rs).length,sX (-bC (bi l a i j0 j))]) ⟨ce,le_refl 2,kN R1 R2,by unfold kQ;rw[if_neg h1,if_neg h2,if_pos h3];rfl⟩
  have h3:¬0<ak (bi l a i j0 j):=of_decide_eq_false t63;obtain⟨cs,R0⟩:=F9 F tw hn hd0;exact pi J1 (llq a.rs) ([[]]) ⟨cs,by decide,ip R0,by unfold kQ;rw[if_neg h1,if_neg h2,if_neg h3];rfl⟩ (hw:=Wk.of (.cons rfl Lj (.k (.k .nil))) (.k (.k (.k .nil))))
 rintro T qs ⟨ct,hql,hq,hR⟩;obtain⟨rr,twT,hkT⟩:=ct.ex;refine gl ?_;refine gW (Wk.virt 900 3 rfl) ?_;refine aJ [4,5,8,90,91] [1000,5,24] (fun(q:Nat)=>[(12,some (.ms 900 3 0 q)),(92,some (i64 q))]) (fun q=>[(900,some (.row 3 (ko T (d8 l a i j0 j) qs q)))]) (fun q=>q<=qs.length) (fun q=>qs.length-q) 0 (zero_le _) ?_;rintro q hqi K2 J2;refine gC (fun t93=>?_) (fun t93=>?_) (st2:=(28,0))
 ·have hin:=aT t93;obtain ⟨x,hx⟩:=aq hin;have hx9:qs.getD q [] = x:=aB hx;have R:=hq x (mem_of_getElem? hx);refine gi (au hx) ?_;refine gc R.c1 ?_;refine gt (aR (Con.rB 24 rfl rfl rfl rfl (vl _ _ _)) (aG rfl rfl rfl) rfl rfl rfl) ?_;refine gD ?_;refine gc R.ng ?_;refine gt (aR (Con.rB 24 rfl rfl rfl rfl (q5 _ _)) (aG rfl rfl rfl) rfl rfl rfl) ?_;refine gc R.c2 ?_;refine gt (aR (Con.rB 24 rfl rfl rfl rfl (vl _ _ _)) (aG rfl rfl rfl) rfl rfl rfl) ?_;refine gD ?_;refine gc R.sb ?_;refine gt (aR (Con.rB 24 rfl rfl rfl rfl (vl _ _ _)) (aG rfl rfl rfl) rfl rfl rfl) ?_;refine gD ?_;refine gt (aR (Con.rB 24 rfl rfl rfl rfl (vK R.d1)) (aG rfl rfl rfl) rfl rfl rfl) ?_;refine gt (aR (Con.rB 24 rfl rfl rfl rfl (vK R.d2)) (aG rfl rfl rfl) rfl rfl rfl) ?_;refine gD ?_;refine gc (BP twT) ?_;refine gt (aR (Con.rB 24 rfl rfl rfl rfl R.body) (.cons (.tmp rfl) (.cons (.tmp rfl) (.cons (.tmp rfl) (.cons (.tmp rfl) (.cons (.tmp rfl) .nil))))) rfl rfl rfl) ?_;refine gl ?_;refine gc (EW q qs.length oz) ?_;refine gs (bR (.tmp rfl) rfl (z8 _ _ _ _).symm (.tmp rfl) T54 rfl T62 rfl rfl (by dsimp only; simp only [length_cons,length_nil]; omega) rfl rfl) ?_;refine gD ?_ (27,0);refine gW (Wk.of (sl:=[(4,some (.ptr 24 0)),(5,some (.ptr 5 0)),(8,some (.lst 1 (qs.map nA))),(12,some (.ms 182 3 0 (q + 1))),(90,some (.lst 1 (qs.map nA))),(91,some (i64 qs.length)),(92,some (i64 q))]) (hp:=[(1000,some (b9 l ⟨3,[i],[z0,z1],0⟩ a)),(5,some (.box (tJ l a i j0 j))),(24,some (a6 T)),(182,some (.row 3 (ko T (d8 l a i j0 j) qs (q + 1))))]) aQ (.k (.k (.k (.cons rfl (BlkSub.of (by rw [VW]; unfold jC; rw [hx9]; rfl)) .nil))))) ?_ (27,0)
  refine gW (Wk.rk (k:=182) (d:=900) rfl rfl) ?_;refine ga aE ?_;exact aD J2 (q+1) hin
 have hin:=a5 hqi t93;subst hin;refine gW ((Wk.freeze (k:=900) rfl).trans<|Wk.of (sl:=[(4,some (.ptr 24 0)),(12,some (.lst 3 (ko T (d8 l a i j0 j) qs qs.length)))]) (hp:=[(1000,some (b9 l ⟨3,[i],[z0,z1],0⟩ a)),(24,some (a6 T))]) (.k (.cons rfl (Sub.of (by rw[bI (z8 _ _ _ _).symm])) .nil)) (.k (.k .nil))) ?_;refine gC (fun t188=>?_) (fun t188=>?_) (st1:=(29,0));cases t188;refine gR ?_;exact(aw.keep (bc rfl)).sub (Sub.of (by rw[hR];rfl))
theorem KX:Sub (.agg [bl (rt ((1:Int):Rat)).neg,ws (rt ((1:Int):Rat)).num,ws (rt ((1:Int):Rat)).den,.v (.bool false),nS,nS]) (qP (((1:Int):Rat),0)) :=
 Sub.agg (.cons (.refl _) (.cons (.refl _) (.cons (.refl _) (.cons (.refl _) (.cons (Sub.nil _ _ _) (.cons (Sub.nil _ _ _) .nil)))))) rfl
theorem rI{ts:LL}(q:Rat):sX (qE q:Et ts)=sh 0 (q:Rat):=zY _ _
def kL(l:Li)(a:As)(i:Int)(j0:Jt)(x:Tn):Pq:=gL (((1:Int):Rat),0) ((qE (dC x.half x.t.q),qE (dF x.half x.t.q)):P2 (llq a.rs)) (aj l j0 i) (aK l a j0 i)
def oq(l:Li)(a:As)(i:Int)(j0:Jt)(x:Tn):List AV×Nat:=if x.err≠0 then([],x.err)else([(⟨llq a.rs,[kL l a i j0 x],1⟩:Sv).av],0)
theorem Oi{l:Li}{g:Gr}{a:As}{x:Tn}(hx:x.t.ok)(hq:Qb 1000 x.t.q)(he:x.err≠0) :
  Con prog 64 [.ptr 1000 0,x.av] [(1000,some (b9 l g a))] (.tup [.lst 3 [],bh x.err]) [(1000,some (b9 l g a))]:=by
 refine gF func64 (fun k z h=>bB h) ?_;refine gc (Ap x hx hq oz) ?_;refine gC (fun t20=>?_) (fun t20=>?_) (st2:=(77777,0))
 ·refine gR ?_;exact(aw.keep (bc rfl)).sub (Sub.tup (.cons (.nil _ _ _) (.cons (.refl _) .nil)))
 exact absurd (da t20) he
theorem GT:Sm 3000 (((1:Int):Rat),(0:Rat)):=⟨Qb.one.mono oz,Qb.mono (e:=1) (q:=0) ⟨by decide,by decide⟩ oz⟩
theorem Hi{E:Nat}(hE:E<=20000000000){l:Li}{a:As}(D:DyW l a)(h3:(llq a.rs).length<=2){body pt:Int}(h1:bw body l.bo.length=true)(h2:bw pt (cF l body).length=true)(hb:Pd E a body) :
  Nm (llq a.rs).length 62500000000 (sX (bn l a body pt).1)/\Nm (llq a.rs).length 62500000000 (sX (bn l a body pt).2):=by
 obtain⟨n,k,bd,m,b,hp⟩:=sH D.hl D.li D.al D.hc h1 h2 hb;obtain⟨tw,_⟩:=cK D.al.tr D.hc;have kb:=o9 h3;have qx:Qb 1000 m.x.q:=by rw[hp.mp.ex,bM];exact hp.mp.sm.x
 have qy:Qb 1000 m.y.q:=by rw[hp.mp.ey,bM];exact hp.mp.sm.y
 have h:=vB tw hp.ok qx qy;unfold bn;rw[hp.eq];exact⟨h.1.mono oz,h.2.mono oz⟩
theorem TQ{E:Nat}(hE:E<=20000000000){l:Li}{a:As}(D:DyW l a)(h3:(llq a.rs).length<=2){i:Nat}{j:Jt}(hj:l.jo[i]?=some j){b:Int}(h:PinP E l a j b) :
  Nm (llq a.rs).length 62500000000 (sX (aK l a j b).1)/\Nm (llq a.rs).length 62500000000 (sX (aK l a j b).2):=by
 obtain⟨i1,i2,i3,i4,_⟩:=cZ D.li hj;unfold aK;rcases h.tie with⟨e,hb⟩ |⟨e,e2,hb⟩
 ·rw[if_pos e];exact Hi hE D h3 i2 i4 hb
 ·rw[if_neg e];exact Hi hE D h3 i1 i3 hb
theorem Jo{E:Nat}(hE:E<=20000000000){l:Li}{a:As}(D:DyW l a)(h3:(llq a.rs).length<=2){n:Nat}{i:Int}{j0:Jt}(h0:l.jo[n]?=some j0)(p0:PinP E l a j0 i){x:Tn}(hq:Qb 1000 x.t.q) :
  BdP (llq a.rs) (((1:Int):Rat),(0:Rat)) ((qE (dC x.half x.t.q),qE (dF x.half x.t.q)):P2 (llq a.rs)) (aj l j0 i) (aK l a j0 i):=by
 obtain⟨tw,etw⟩:=cK D.al.tr D.hc;have qc:=sY (half:=x.half) hq;have qs:=rK (half:=x.half) hq;have hs0:Sm 1000 (aj l j0 i):=gj D.hl D.li h0 p0.or;obtain⟨y1,y2⟩:=TQ hE D h3 h0 p0
 exact F3 (F := 80000000000) (W := 10000) (u := (((1 : Int) : Rat), (0 : Rat))) (p := aj l j0 i) (w := ((qE (dC x.half x.t.q), qE (dF x.half x.t.q)) : P2 (llq a.rs))) (o := aK l a j0 i) tw h3 (o9 h3) GT (hs0.mono oz) (by decide +kernel)
  (by show Nm _ _ (sX (qE (dC x.half x.t.q):Et (llq a.rs)));rw[rI];exact(oP tw.five qc).mono oz) (by show Nm _ _ (sX (qE (dF x.half x.t.q):Et (llq a.rs)));rw[rI];exact(oP tw.five qs).mono oz) y1 y2 oz oz oz
theorem UK{E:Nat}(hE:E<=20000000000){l:Li}{a:As}(D:DyW l a)(h3:(llq a.rs).length<=2){i z0 d:Int}{j0:Jt}(hg:GrOk l ⟨0,[i],[z0],d⟩)(h0:l.jo[z0.toNat]?=some j0)(p0:PinP E l a j0 i){x:Tn}(hx:x.t.ok)(hq:Qb 1000 x.t.q)(he:x.err=0) :
  Con prog 64 [.ptr 1000 0,x.av] [(1000,some (b9 l ⟨0,[i],[z0],d⟩ a))] (.tup [.lst 3 [(⟨llq a.rs,[kL l a i j0 x],1⟩:Sv).av],.v .nilIface]) [(1000,some (b9 l ⟨0,[i],[z0],d⟩ a))]:=by
 obtain⟨tw,etw⟩:=cK D.al.tr D.hc;have hc:=Ap x hx hq oz;rw[if_pos he,he]at hc;have hs:=DU x hx hq oz;rw[if_pos he,he]at hs;have qc:=sY (half:=x.half) hq;have qs:=rK (half:=x.half) hq;have hs0:Sm 1000 (aj l j0 i):=gj D.hl D.li h0 p0.or;have hb:=yk GT (hs0.mono oz) (Jo hE D h3 h0 p0 hq)
 have ew:dc (P2.l ((qE (dC x.half x.t.q),qE (dF x.half x.t.q)):P2 (llq a.rs)))=aI (sh 0 (dC x.half x.t.q:Rat)) (sh 0 (dF x.half x.t.q:Rat)):=by
  show aI (sX (qE (dC x.half x.t.q):Et (llq a.rs))) (sX (qE (dF x.half x.t.q):Et (llq a.rs)))=_;rw[rI,rI]
 rw[ew]at hb;have hcl:=BP tw;have hcl2:FP 154 [cJ a.rs] (aN (llq a.rs)):=by rw[etw];exact hcl
 refine gF func64 (fun k z h=>bB h) ?_;refine gc hc ?_;refine gC (fun t20=>?_) (fun t20=>?_) (st1:=(3,0));cases t20;refine gc hs ?_;refine gC (fun t28=>?_) (fun t28=>?_) (st1:=(6,0));cases t28;refine gi rfl ?_;refine gt (aR (sR hE D.hl D.li _ hg D.al D.hc (k:=0) rfl h0 h3 p0) (.cons (.tmp rfl) (.cons (.const _) (cr rfl))) rfl rfl rfl) ?_;refine gD ?_ (9,0);refine gW (Wk.of (sl:=[(0,some (.ptr 1000 0)),(6,some (.ptr 6 0)),(8,some (.ptr 8 0)),(9,some (.ptr 9 0)),(10,some (.ptr 10 0)),(11,some (.ptr 52 0))]) (hp:=[(1000,some (b9 l ⟨0,[i],[z0],d⟩ a)),(6,some (.box [bl (rt (dC x.half x.t.q)).neg,ws (rt (dC x.half x.t.q)).num,ws (rt (dC x.half x.t.q)).den])),(8,some (.box [bl (rt (dF x.half x.t.q)).neg,ws (rt (dF x.half x.t.q)).num,ws (rt (dF x.half x.t.q)).den])),(9,some (.box (qC (aj l j0 i)))),(10,some (.box [nA (sX (aK l a j0 i).1),nA (sX (aK l a j0 i).2)])),(52,some (a6 (llq a.rs)))]) aQ (.k (.k (.k (.k (.k (.cons rfl (BlkSub.bL (.cons (.of (l8 etw)) (.cons (.refl _) .nil)) rfl) .nil))))))) ?_
 refine gc (kF 1 oz) ?_;refine gc (uX (qc.qs oz) (qs.qs oz)) ?_;refine gt (aR (Con.rB 52 rfl rfl rfl rfl (Con.sA (.cons (.refl _) (.cons KX (.cons (.refl _) (.cons (.refl _) (.cons (.refl _) .nil))))) hb)) (.cons (.tmp rfl) (.cons (.tmp rfl) (.cons (.tmp rfl) (.cons (.tmp rfl) (.cons (.tmp rfl) .nil))))) rfl rfl rfl) ?_;refine gD ?_;refine gC (fun t67=>?_) (fun t67=>?_) (st1:=(12,0));cases t67;refine gc hcl2 ?_;refine gD ?_;refine gR ?_;exact aw.keep (bc rfl)
theorem Jq{E:Nat}(hE:E<=20000000000){l:Li}{a:As}(D:DyW l a)(h3:(llq a.rs).length<=2){i z0 d:Int}{j0:Jt}(hg:GrOk l ⟨0,[i],[z0],d⟩)(h0:l.jo[z0.toNat]?=some j0)(p0:PinP E l a j0 i){x:Tn}(hx:x.t.ok)(hq:Qb 1000 x.t.q) :
  Con prog 64 [.ptr 1000 0,x.av] [(1000,some (b9 l ⟨0,[i],[z0],d⟩ a))] (ph (oq l a i j0 x)) [(1000,some (b9 l ⟨0,[i],[z0],d⟩ a))]:=by
 by_cases he:x.err=0
 ·have h:=UK hE D h3 hg h0 p0 hx hq he;unfold oq;rw[if_neg oz];exact h
 ·have h:=Oi (l:=l) (g:=⟨0,[i],[z0],d⟩) (a:=a) hx hq he;unfold oq;rw[if_pos he];exact h
def iW(l:Li)(a:As)(g:Gr)(x:Tn):List AV×Nat :=
  if g.kind=0 then oq l a (ci g 0) (bq l g 0) x
  else if g.kind=1 then mU l a (ci g 0) (ci g 1) (bq l g 0) (bq l g 1) (bq l g 2)
  else if g.kind=2 then mz l a (ci g 0) (bq l g 0) (bq l g 1)
  else kQ l a (ci g 0) (bq l g 0) (bq l g 1)
theorem yd{E:Nat}{l:Li}{k:Int}{a:As}{own:Bool}{n:Nat}{g:Gr}(h:DyOk E l k a own n g)(hk:g.kind=0):∃i z0 d j0,g=⟨0,[i],[z0],d⟩/\l.jo[z0.toNat]?=some j0/\PinP E l a j0 i:=by
 have hd:=h.dy;cases hd with
 |rrr _ _ _ _ _ _ _=>exact absurd hk (by simp)
 |pr _ _ _=>exact absurd hk (by simp)
 |rp _ _ _=>exact absurd hk (by simp)
 | @drv b z d j x t d0 hd hb=>exact⟨b,z,d,j,rfl,t.hj,h.pin rfl t (by simp) (by simp)⟩
theorem S3{l:Li}{k:Int}{x:Tn}{a:As}{E:Nat}(hop:FP 63 [l.av,i64 k,a.av,bl false] (.tup [.v (.pointer none),bh E]))(h0:E≠0) :
  FP 18 [l.av,i64 k,x.av,a.av] (.tup [.lst 3 [],bh E]):=by
 refine ah func18 ?_;refine gc hop ?_;refine gC (fun t20=>?_) (fun t20=>?_) (st2:=(77777,0))
 ·refine gR ?_;exact dp (Sub.tup (.cons (.nil _ _ _) (.cons (.refl _) .nil)))
 exact absurd (da t20) h0
theorem QH{E:Nat}(hE:E<=20000000000){l:Li}{k:Int}{a:As}{n:Nat}{g:Gr}{x:Tn}(hx:x.t.ok)(hq:Qb 1000 x.t.q)(h3:(llq a.rs).length<=2)(hR:g.kind≠0->E=3900000/\DyS a)(hop:Con prog 63 [l.av,i64 k,a.av,bl false] [] (.tup [.ptr 900 0,.v .nilIface]) [(900,some (b9 l g a))])(D:DyW l a)(ok:DyOk E l k a false n g) :
  FP 18 [l.av,i64 k,x.av,a.av] (ph (iW l a g x)):=by
 have hgo:=ok.ok;refine ah func18 ?_;refine gt (aA hop (.cons (.tmp rfl) (.cons (.tmp rfl) (.cons (.tmp rfl) (.cons (.const _) .nil)))) aC rfl rfl) ?_ (2,0);refine gW (Wk.o (sl:=[(6,some (.ptr 6 0)),(10,some (.ptr 900 0)),(11,some (.v .nilIface))]) (hp:=[(6,some (.box x.av.cells)),(900,some (b9 l g a))])) ?_;refine gC (fun t20=>?_) (fun t20=>?_) (st1:=(3,0));cases t20;refine gC (fun t27=>?_) (fun t27=>?_)
 ·have hk:g.kind = 0:=cD t27;obtain ⟨i,z0,d,j0,e,hj0,p0⟩:=yd ok hk;have eR:iW l a g x = oq l a i j0 x:=by unfold iW; rw [if_pos hk,e]; show oq l a i (l.jo.getD z0.toNat default) x = _; rw [aB hj0]
  subst e;refine gt (aR (Con.rB 900 rfl rfl rfl rfl (Jq hE D h3 hgo hj0 p0 hx hq)) (bp rfl rfl) rfl rfl rfl) ?_;refine gR ?_;exact dp (Sub.of (by rw[eR];rfl))
 have hk0:g.kind≠0:=dm t27;obtain⟨hE9,S⟩:=hR hk0;subst hE9;have D:DyR l a:=⟨D,S⟩
 have hn:=S.one D.hc;refine gC (fun t34=>?_) (fun t34=>?_)
 ·have hk:g.kind = 1:=cD t34;obtain ⟨i,k2,z0,z1,z2,j0,j1,j2,P⟩:=ok.rrr hk;obtain ⟨e0,e1,e2,b0,b1,_⟩:=P.at;have eR:iW l a g x = mU l a i k2 j0 j1 j2:=by unfold iW; rw [if_neg hk0,if_pos hk,e0,e1,e2,b0,b1]
  have e:=P.eq;subst e;refine gt (aR (Con.rB 900 rfl rfl rfl rfl (Pm D hn hgo P)) (cr rfl) rfl rfl rfl) ?_;refine gR ?_;exact dp (Sub.of (by rw[eR];rfl))
 have hk1:g.kind≠1:=dm t34;refine gC (fun t40=>?_) (fun t40=>?_)
 ·have hk:g.kind = 2:=cD t40;obtain ⟨i,z0,z1,j0,j,P,ha,hb⟩:=ok.pr hk;obtain ⟨e0,e1,b0,_⟩:=P.at;have eR:iW l a g x = mz l a i j0 j:=by unfold iW; rw [if_neg hk0,if_neg hk1,if_pos hk,e0,e1,b0]
  have e:=P.eq;subst e;refine gt (aR (Con.rB 900 rfl rfl rfl rfl (Mn D hn hgo P ha hb)) (cr rfl) rfl rfl rfl) ?_;refine gR ?_;exact dp (Sub.of (by rw[eR];rfl))
 have hk2:g.kind≠2:=dm t40;obtain⟨i,z0,z1,j0,j,P,_,hj,hb⟩:=ok.rp hk0 hk1 hk2;obtain⟨e0,e1,b0,_⟩:=P.at;have eR:iW l a g x=kQ l a i j0 j:=by unfold iW;rw[if_neg hk0,if_neg hk1,if_neg hk2,e0,e1,b0]
 have e:=P.eq;subst e;refine gt (aR (Con.rB 900 rfl rfl rfl rfl (Rz D hn hgo P hj hb)) (cr rfl) rfl rfl rfl) ?_;refine gR ?_;exact dp (Sub.of (by rw[eR];rfl))
def uV(l:Li)(k:Int)(x:Tn)(a:As):List AV×Nat:=if ft l k a false=0 then iW l a (iN l k) x else([],ft l k a false)
theorem PW(l:Li)(hl:l.ok)(k:Int){x:Tn}(hx:x.t.ok)(hq:Qb 1000 x.t.q)(a:As)(al:AB a)(h3:bA a.rs=0->(llq a.rs).length<=2){E:Nat}(hE:E<=20000000000)(hs:uN E l k a false)(hR:ft l k a false=0->(iN l k).kind≠0->E=3900000/\DyS a) :
  FP 18 [l.av,i64 k,x.av,a.av] (ph (uV l k x a)):=by
 have hop:=FC l hl k a al false;unfold uV
 by_cases h0:ft l k a false=0
 ·obtain ⟨n, g, ok⟩:=Aw hs h0;have hgA:iN l k = g:=by unfold iN; rw [ok.hk,toNat_natCast]; exact aB ok.hg
  have hR:=hR h0;rw[hgA]at hR;rw[h0,hgA]at hop;rw[if_pos h0,hgA];exact QH hE hx hq (h3 ok.chk) hR hop ⟨hl,ok.li,al,ok.chk⟩ ok
 ·rw[lc h0,qS h0]at hop;rw[if_neg h0];exact S3 hop h0
structure SvOk(s:Sv):Prop where
  tw:∃r,Tw s.ts r
  two:s.ts.length<=2
  ps:∀p∈s.ps,Pq.ok s.ts.length 80000000000 p
  ln:s.ps.length<=2
theorem lO(ts:LL)(x:T ts.length):fm ts x x=true:=by
 unfold fm subT;rw[T.add_neg,T.sgn_zero];rfl
theorem Qc{ts:LL}{r:Nat}(tw:Tw ts r)(h2:ts.length<=2){p:Pq}(hp:Pq.ok ts.length 80000000000 p):FP 21 [aN ts,p.av,p.av] (bl true):=by
 have hl:lm ts.length=200000000000:=by unfold lm;rw[if_pos h2]
 have h:=NP tw hp.c hp.s hp.x hp.y hp.c hp.s hp.x hp.y (by rw[hl];omega);rw[lO,lO,lO,lO]at h;exact h
structure SolP(S:List Sv)(kd:Int)(n b:Nat):Prop where
  two:S.length<=2
  ok:∀s∈S,SvOk s
  md:∀(i:Nat)(s:Sv),S[i]?=some s->s.mode=(if kd=0 then 1 else if S.length=2 then 1-2*(i:Int)else 0)/\s.ts.length=n+(if S.length=2 then 1 else 0)/\s.ps.length=b
theorem oD(kd:Int)(n b:Nat):SolP [] kd n b:=⟨by simp,by simp,by simp⟩
theorem uB(f:Nat->Sv)(n:Nat):((List.range n).map fun i=>(f i).av)=((List.range n).map f).map Sv.av:=by rw[map_map];rfl
theorem JN{ts:LL}(p q:P2 ts)(z z2:Et ts)(h0:fT p q z z2=0):(eU p q z z2).ts.length=ts.length+(if(eU p q z z2).ps.length=2 then 1 else 0):=by
 unfold fT mc at h0;unfold eU lX;split
 ·rename_i hd;rw[if_pos hd]at h0;split
  ·simp
  ·rename_i hz;split
   ·rename_i hp;rw[if_pos ⟨Decidable.not_not.1 hz,hp⟩]at h0;cases h0
   ·simp
 ·split
  ·simp
  ·split
   ·simp
   ·simp[dD]
theorem P4{ts:LL}(p q o:P2 ts)(z:Et ts)(h0:fR p q=0):(eY p q o z).ts.length=ts.length+(if(eY p q o z).ps.length=2 then 1 else 0):=by
 unfold fR at h0;unfold eY;split
 ·rename_i hd;rw[if_pos hd]at h0;cases h0
 ·split
  ·simp
  ·split
   ·simp
   ·simp[dD]
def kt(m:Mt)(hs:List Hd):List Sv:=(List.range m.ps.length).map (j9 m hs)
def lH(l:Li)(a:As)(i k:Int)(j0 j1 j2:Jt):List Sv :=
  if gk [cf (aj l j2 i) (aj l j0 i),cf (aj l j2 k) (aj l j1 k)]=true then[]
  else if fT (aK l a j0 i) (aK l a j1 k) (qE (bY (aj l j2 i) (aj l j0 i))) (qE (bY (aj l j2 k) (aj l j1 k)))≠0 then[]
  else kt (eU (aK l a j0 i) (aK l a j1 k) (qE (bY (aj l j2 i) (aj l j0 i))) (qE (bY (aj l j2 k) (aj l j1 k)))) [⟨aj l j0 i,P2.l (aK l a j0 i),aj l j2 i⟩,⟨aj l j1 k,P2.l (aK l a j1 k),aj l j2 k⟩]
def kV(l:Li)(a:As)(i:Int)(j0 j:Jt):List Sv :=
  if gk [cf (aX l i j.point) (aj l j0 i)]=true then[]
  else if fR (bn l a j.b j.on) (bn l a j.b j.to)≠0 then[]
  else kt (eY (bn l a j.b j.on) (bn l a j.b j.to) (aK l a j0 i) (qE (bY (aX l i j.point) (aj l j0 i)))) [⟨aj l j0 i,P2.l (aK l a j0 i),aX l i j.point⟩]
def kc(ts:LL)(R:Rp)(qs:LL):List Sv:=(List.range qs.length).map (jC ts R qs)
def kU(l:Li)(a:As)(i:Int)(j0 j:Jt):List Sv :=
  if ak (cI l a i j0 j)=0/\ak (qE (cR l i j0 j):Et (llq a.rs))=0 then[]
  else if ak (bi l a i j0 j)<0 then[]
  else if 0<ak (bi l a i j0 j)then kc (aL (llq a.rs) (sX (bi l a i j0 j))) (d8 l a i j0 j) [cm (llq a.rs).length,sX (-bC (bi l a i j0 j))]
  else kc (llq a.rs) (d8 l a i j0 j) [[]]
def kW(l:Li)(a:As)(i:Int)(j0:Jt)(x:Tn):List Sv:=if x.err≠0 then[]else[⟨llq a.rs,[kL l a i j0 x],1⟩]
def fj(l:Li)(a:As)(g:Gr)(x:Tn):List Sv :=
  if g.kind=0 then kW l a (ci g 0) (bq l g 0) x
  else if g.kind=1 then lH l a (ci g 0) (ci g 1) (bq l g 0) (bq l g 1) (bq l g 2)
  else if g.kind=2 then kV l a (ci g 0) (bq l g 0) (bq l g 1)
  else kU l a (ci g 0) (bq l g 0) (bq l g 1)
theorem UQ(l:Li)(a:As)(i k:Int)(j0 j1 j2:Jt):(mU l a i k j0 j1 j2).1=(lH l a i k j0 j1 j2).map Sv.av:=by
 unfold mU lH;split
 ·rfl
 ·split
  ·rfl
  ·exact uB _ _
theorem UY(l:Li)(a:As)(i:Int)(j0 j:Jt):(mz l a i j0 j).1=(kV l a i j0 j).map Sv.av:=by
 unfold mz kV;split
 ·rfl
 ·split
  ·rfl
  ·exact uB _ _
theorem K9(l:Li)(a:As)(i:Int)(j0 j:Jt):(kQ l a i j0 j).1=(kU l a i j0 j).map Sv.av:=by
 unfold kQ kU;split
 ·rfl
 ·split
  ·rfl
  ·split
   ·exact uB _ _
   ·exact uB _ _
theorem JJ(l:Li)(a:As)(g:Gr)(x:Tn):(iW l a g x).1=(fj l a g x).map Sv.av:=by
 unfold iW fj;split
 ·unfold oq kW;split <;> rfl
 ·split
  ·exact UQ ..
  ·split
   ·exact UY ..
   ·exact K9 ..
theorem Ha{ts:LL}{m:Mt}(ok:MtOk ts m){hs:List Hd}(hl:hs.length<=2)(H:∀x∈m.ps,∀h∈hs,HdP m.ts x h){kd:Int}(hk:kd≠0)(lv:m.ts.length=ts.length+(if m.ps.length=2 then 1 else 0)) :
  SolP (kt m hs) kd ts.length hs.length:=by
 have hln:=ok.ln;refine⟨by simpa[kt]using hln,?_,?_⟩
 ·intro s hs2;obtain⟨i,hi,rfl⟩:=List.mem_map.1 hs2;obtain⟨x,hx⟩:=aq (List.mem_range.1 hi);obtain⟨r,tw,_⟩:=ok.tw;refine⟨⟨r,tw⟩,ok.two,?_,by simpa[j9]using hl⟩;intro p hp;unfold j9 at hp;rw[aB hx]at hp;obtain⟨h,hh,rfl⟩:=List.mem_map.1 hp;exact(H x (mem_of_getElem? hx) h hh).b.ok
 ·intro i s hi;unfold kt at hi;have hin:i < m.ps.length:=by have:=(List.getElem?_eq_some_iff.1 hi).1; simpa using this
  have e:s=j9 m hs i:=by simp[hin]at hi;exact hi.symm
  subst e;have hlen:(kt m hs).length=m.ps.length:=by simp[kt]
  rw[hlen,if_neg hk];refine⟨?_,lv,by simp[j9]⟩;show(if m.ps.length=1 then 0 else 1-2*(i:Int))=_
  by_cases h2:m.ps.length=2
  ·rw[if_neg oz,if_pos h2]
  ·rw[if_pos oz,if_neg h2]
theorem TV{l:Li}{a:As}(D:DyR l a)(hn:(llq a.rs).length<=1){g:Gr}{i k z0 z1 z2:Int}{j0 j1 j2:Jt}(P:RrrP 3900000 l a g i k z0 z1 z2 j0 j1 j2):SolP (lH l a i k j0 j1 j2) 1 (llq a.rs).length 2:=by
 have c:=D.s.ct D.hc;obtain⟨tw,etw⟩:=cK D.s.tr D.hc;have hq0:=gj D.hl D.li P.h0 P.p0.or;have hq1:=gj D.hl D.li P.h1 P.p1.or;have hq2:=gj D.hl D.li P.h2 P.t1;have hq3:=gj D.hl D.li P.h2 P.t2;obtain⟨y1,y2⟩:=lM D.hl D.li D.al D.s D.hc P.h0 P.p0;obtain⟨y3,y4⟩:=lM D.hl D.li D.al D.s D.hc P.h1 P.p1;haveI:=c;haveI q1:=pC hq2 hq0;haveI q2:=pC hq3 hq1;have z1:Zu 310000 65000 (qE (bY (aj l j2 i) (aj l j0 i)):Et (llq a.rs)) 3 0:=inferInstance;have z2:Zu 310000 65000 (qE (bY (aj l j2 k) (aj l j1 k)):Et (llq a.rs)) 3 0:=inferInstance;unfold lH
 by_cases h1:gk [cf (aj l j2 i) (aj l j0 i),cf (aj l j2 k) (aj l j1 k)]=true
 ·rw[if_pos h1];exact oD _ _ _
 ·rw[if_neg h1];obtain⟨w1,w2⟩:=wJ (Bool.eq_false_iff.2 h1)
  by_cases h2:fT (aK l a j0 i) (aK l a j1 k) (qE (bY (aj l j2 i) (aj l j0 i))) (qE (bY (aj l j2 k) (aj l j1 k)))≠0
  ·rw[if_pos h2];exact oD _ _ _
  ·rw[if_neg h2];have h3:=Decidable.not_not.1 h2;have ok:=Gj (x:=(aK l a j0 i).1) (y:=(aK l a j0 i).2) (x2:=(aK l a j1 k).1) (y2:=(aK l a j1 k).2) tw hn c y1 y2 z1 y3 y4 z2 h3;exact Ha ok (by simp) (fun x hx=>kN (qV ok hx (y1.nm.mono (by decide)) (y2.nm.mono (by decide)) hq0 hq2 w1) (qV ok hx (y3.nm.mono (by decide)) (y4.nm.mono (by decide)) hq1 hq3 w2)) (by decide) (JN _ _ _ _ h3)
theorem Rv{l:Li}{a:As}(D:DyR l a)(hn:(llq a.rs).length<=1){g:Gr}{i z0 z1:Int}{j0 j:Jt}(P:SlP 3900000 l a g 2 i z0 z1 j0 j)(ha:j.a=i)(hb:Pd 3900000 a j.b):SolP (kV l a i j0 j) 2 (llq a.rs).length 1:=by
 have c:=D.s.ct D.hc;obtain⟨tw,etw⟩:=cK D.s.tr D.hc;obtain⟨i1,i2,i3,i4,i5⟩:=cZ D.li P.h1;have hq2:Sm 1000 (aX l i j.point):=by rw[<- ha];exact jX D.hl D.li i1 i3
 have hq0:=gj D.hl D.li P.h0 P.p0.or;obtain⟨y1,y2⟩:=lM D.hl D.li D.al D.s D.hc P.h0 P.p0;obtain⟨y3,y4⟩:=mF D.hl D.li D.al D.s D.hc i2 i4 hb;obtain⟨y5,y6⟩:=mF D.hl D.li D.al D.s D.hc i2 (i5 P.hk) hb;haveI:=c;haveI q1:=pC hq2 hq0;have z1:Zu 310000 65000 (qE (bY (aX l i j.point) (aj l j0 i)):Et (llq a.rs)) 3 0:=inferInstance;unfold kV
 by_cases h1:gk [cf (aX l i j.point) (aj l j0 i)]=true
 ·rw[if_pos h1];exact oD _ _ _
 ·rw[if_neg h1];have w1:=uz (Bool.eq_false_iff.2 h1)
  by_cases h2:fR (bn l a j.b j.on) (bn l a j.b j.to)≠0
  ·rw[if_pos h2];exact oD _ _ _
  ·rw[if_neg h2];have h3:=Decidable.not_not.1 h2;have ok:=HR (o:=aK l a j0 i) (p:=bn l a j.b j.on) (q:=bn l a j.b j.to) (z:=qE (bY (aX l i j.point) (aj l j0 i))) tw hn c y1 y2 y3 y4 y5 y6 z1 h3;exact Ha ok (by simp) (fun x hx=>ip (qV ok hx (y1.nm.mono (by decide)) (y2.nm.mono (by decide)) hq0 hq2 w1)) (by decide) (P4 _ _ _ _ h3)
theorem GC{ts T:LL}{R:Rp}{qs:LL}(ct:Cy T 773000000 1101400000)(hl:qs.length<=2)(h1:1<=qs.length)(H:∀q∈qs,RqP T R q)(lv:T.length=ts.length+(if qs.length=2 then 1 else 0)):SolP (kc T R qs) 3 ts.length 1:=by
 refine⟨by simpa[kc]using hl,?_,?_⟩
 ·intro s hs2;obtain⟨i,hi,rfl⟩:=List.mem_map.1 hs2;obtain⟨x,hx⟩:=aq (List.mem_range.1 hi);obtain⟨r,tw,_⟩:=ct.ex;refine⟨⟨r,tw⟩,ct.two,?_,by simp[jC]⟩;intro p hp;unfold jC at hp;rw[aB hx]at hp;rw[List.mem_singleton.1 hp];exact(H x (mem_of_getElem? hx)).b.ok
 ·intro i s hi;unfold kc at hi;have hin:i < qs.length:=by have:=(List.getElem?_eq_some_iff.1 hi).1; simpa using this
  have e:s=jC T R qs i:=by simp[hin]at hi;exact hi.symm
  subst e;have hlen:(kc T R qs).length=qs.length:=by simp[kc]
  rw[hlen,if_neg (by decide)];refine⟨?_,lv,by simp[jC]⟩;show(if qs.length=1 then 0 else 1-2*(i:Int))=_
  by_cases h2:qs.length=2
  ·rw[if_neg oz,if_pos h2]
  ·rw[if_pos oz,if_neg h2]
theorem TP{l:Li}{a:As}(D:DyR l a)(hn:(llq a.rs).length<=1){g:Gr}{i z0 z1:Int}{j0 j:Jt}(P:SlP 3900000 l a g 3 i z0 z1 j0 j)(hj:j.b=i)(hb:Pd 3900000 a j.a):SolP (kU l a i j0 j) 3 (llq a.rs).length 1:=by
 obtain⟨tw,etw⟩:=cK D.s.tr D.hc;have F:=IF D hn P hj hb;unfold kU
 by_cases h1:ak (cI l a i j0 j)=0/\ak (qE (cR l i j0 j):Et (llq a.rs))=0
 ·rw[if_pos h1];exact oD _ _ _
 ·rw[if_neg h1]
  by_cases h2:ak (bi l a i j0 j)<0
  ·rw[if_pos h2];exact oD _ _ _
  ·rw[if_neg h2];have hd0:ak (cI l a i j0 j)≠0:=vA tw h2 h1
   by_cases h3:0<ak (bi l a i j0 j)
   ·rw[if_pos h3];obtain⟨E,R1,R2,_⟩:=H4 F tw hn hd0 oz;exact GC (ts:=llq a.rs) (qs:=[cm (llq a.rs).length,sX (-bC (bi l a i j0 j))]) E.cy (le_refl 2) (by show 1<=2;omega) (kN R1 R2) (dD (llq a.rs) (sX (bi l a i j0 j)))
   ·rw[if_neg h3];obtain⟨cs,R0⟩:=F9 F tw hn hd0;exact GC (ts:=llq a.rs) (qs:=[[]]) cs (by show 1<=2;omega) (le_refl 1) (ip R0) rfl
theorem RM{E:Nat}(hE:E<=20000000000){l:Li}{a:As}(D:DyW l a)(h3:(llq a.rs).length<=2){i z0:Int}{j0:Jt}(h0:l.jo[z0.toNat]?=some j0)(p0:PinP E l a j0 i){x:Tn}(hq:Qb 1000 x.t.q):SolP (kW l a i j0 x) 0 (llq a.rs).length 1:=by
 obtain⟨tw,etw⟩:=cK D.al.tr D.hc;unfold kW
 by_cases he:x.err≠0
 ·rw[if_pos he];exact oD _ _ _
 ·rw [if_neg he];refine ⟨by simp,ip ⟨⟨_,tw⟩,h3,ip (Jo hE D h3 h0 p0 hq).ok,by show 1 <= 2; omega⟩,?_⟩;intro n s hs
  match n,hs with
  |0,hs=>cases hs;exact⟨rfl,rfl,rfl⟩
theorem I7{E:Nat}(hE:E<=20000000000){l:Li}{k:Int}{a:As}{n:Nat}{g:Gr}{x:Tn}(D:DyW l a)(h3:(llq a.rs).length<=2)(ok:DyOk E l k a false n g)(hR:g.kind≠0->E=3900000/\DyS a)(hq:Qb 1000 x.t.q):SolP (fj l a g x) g.kind (llq a.rs).length g.bo.length:=by
 unfold fj
 by_cases hk0:g.kind=0
 ·obtain⟨i,z0,d,j0,e,hj0,p0⟩:=yd ok hk0;rw[if_pos hk0,e];show SolP (kW l a i (l.jo.getD z0.toNat default) x) _ _ _;rw[aB hj0];exact RM hE D h3 hj0 p0 hq
 ·rw[if_neg hk0];obtain⟨hE9,S⟩:=hR hk0;subst hE9;have D:DyR l a:=⟨D,S⟩
  have hn:=S.one D.hc
  by_cases hk1:g.kind=1
  ·obtain⟨i,k2,z0,z1,z2,j0,j1,j2,P⟩:=ok.rrr hk1;obtain⟨e0,e1,e2,b0,b1,_⟩:=P.at;rw[if_pos hk1,e0,e1,e2,b0,b1,hk1,P.eq];exact TV D hn P
  ·rw[if_neg hk1]
   by_cases hk2:g.kind=2
   ·obtain⟨i,z0,z1,j0,j,P,ha,hb⟩:=ok.pr hk2;obtain⟨e0,e1,b0,_⟩:=P.at;rw[if_pos hk2,e0,e1,b0,hk2,P.eq];exact Rv D hn P ha hb
   ·obtain⟨i,z0,z1,j0,j,P,_,hj,hb⟩:=ok.rp hk0 hk1 hk2;obtain⟨e0,e1,b0,hk3⟩:=P.at;rw[if_neg hk2,e0,e1,b0,hk3,P.eq];exact TP D hn P hj hb
open Lean.Grind (CommRing)
structure Hm{ts:LL}{R:Type}[CommRing R](f:Et ts->R):Prop where
  add:∀x y,f (x+y)=f x+f y
  mul:∀x y,f (x*y)=f x*f y
  neg:∀x,f (-x)=-f x
  one:f 1=1
  inv:∀x,ak x≠0->f (iE x)*f x=1
  zero:∀x,f x=0↔ak x=0
section
variable{ts:LL}{R:Type}[CommRing R]{f:Et ts->R}(h:Hm f)
include h
theorem Hm.sub(x y:Et ts):f (x-y)=f x-f y:=by
 rw[show x-y=x+-y by grind,h.add,h.neg];grind
theorem Hm.nul:f 0=0:=by
 have e:=h.add 0 0;rw[show(0:Et ts)+0=0 by grind]at e;grind
theorem Hm.q1:f (qE ((1:Int):Rat))=1:=by rw[lK];exact h.one
theorem Hm.q4:f (qE 4)=4:=by
 have e:(qE 4:Et ts)=1+1+1+1:=by
  have e1:=qO (r:=am ts) (n:=ts.length) 1 1;have e2:=qO (r:=am ts) (n:=ts.length) 2 2;rw[show(1:Rat)+1=2 by decide +kernel]at e1;rw[show(2:Rat)+2=4 by decide +kernel,e1]at e2;rw[e2];have e3:(qE 1:Et ts)=1:=rfl;rw[e3];grind
 rw[e,h.add,h.add,h.add,h.one];grind
end
abbrev gQ(ts:LL):Prop:=eT (am ts) ts.length
theorem OZ{ts:LL}(hp:gQ ts):Hm (an hp:Et ts->Zq hp) :=
 ⟨fun _ _=>rfl,fun _ _=>rfl,fun _=>rfl,rfl,fun x hx=>BW hp hx,fun x=>fg hp⟩
theorem TN{ts:LL}(X:Et ts)(hp:gQ (aL ts (sX X))):Hm (fun x:Et ts=>an hp (aO X x)) :=
  ⟨fun x y => by rw [qQ]; rfl, fun x y => by rw [fc]; rfl, fun x => by rw [EV]; rfl,
   by have e := mP X ((1 : Nat) : Rat)
      have e1:(qE ((1:Nat):Rat):Et ts)=1:=rfl;rw[e1]at e;rw[e];rfl,
   fun x hx=>by rw[oF];exact BW hp (by show ak (aO X x)≠0;rw[oJ];exact hx),
   fun x=>by rw[fg hp];show ak (aO X x)=0↔_;rw[oJ]⟩
theorem Wl(k:Nat):ae (k+1) (cm k)=(T.zero k,T.ofQ k 1):=by
 have h1:(cm k).take (2^k)=List.replicate (2^k) 0:=by
  unfold cm;rw[List.take_set_of_le (le_refl _),List.take_replicate];congr 1;have:=Nat.pow_lt_pow_right (a:=2) oz (Nat.lt_succ_self k);omega
 have h2:(cm k).drop (2^k)=(1:Rat)::List.replicate (2^k-1) 0:=by
  unfold cm;rw[List.drop_set,if_neg oz,Nat.sub_self,List.drop_replicate]
  have e:2^(k+1)-2^k=(2^k-1)+1:=by
   have h3:0<2^k:=Nat.pow_pos oz;have h4:2^(k+1)=2^k+2^k:=by rw[Nat.pow_succ];omega
   omega
  rw[e,List.replicate_succ,List.set_cons_zero]
 show(ae k _,ae k _)=_;rw[h1,h2]
 have e1:ae k (List.replicate (2^k) (0:Rat))=T.zero k:=by
  rw[<- fV]
  exact oK k (fun i _=>by
   rw[getD_eq_getElem?_getD,getD_eq_getElem?_getD,getElem?_replicate];split <;> rfl)
 have e2:ae k ((1:Rat)::List.replicate (2^k-1) 0)=T.ofQ k 1:=by
  rw[<- kC]
  exact oK k (fun i _=>by
   cases i with
   |zero=>rfl
   |succ i =>
    rw[getD_eq_getElem?_getD,getD_eq_getElem?_getD,List.getElem?_cons_succ,getElem?_replicate];split <;> rfl)
 rw[e1,e2]
theorem Q3{n N:Nat}(hN:N=n+1){r:(k:Nat)->T k}(x:T n)(hx:r n=x):T.mul r N (ae N (cm n)) (ae N (cm n))=iJ x:=by
 subst hN;rw[Wl,jZ];show(T.add n (T.mul r n (T.zero n) (T.zero n)) (T.mul r n (T.mul r n (T.ofQ n 1) (T.ofQ n 1)) (r n)),T.add n (T.mul r n (T.zero n) (T.ofQ n 1)) (T.mul r n (T.ofQ n 1) (T.zero n)))=_;have L:=mC r n;rw[L.one,L.one,T.zero_mul,T.zero_mul,T.zero_add,L.one,T.zero_add,hx]
theorem yU{ts:LL}(X:Et ts):bC X*bC X=aO X X:=by
 refine Q3 (dD _ _) X ?_;show ae ts.length ((aL ts (sX X)).getD ts.length [])=X;rw[wB,o8];exact a7 _ _
section
variable{R:Type}[CommRing R]
theorem Wf{p1 p2 q1 q2 z z2 i t:R}(hi:i*(((p1-q1)*(p1-q1)+(p2-q2)*(p2-q2))+((p1-q1)*(p1-q1)+(p2-q2)*(p2-q2)))=1)
  (ht:t*t=4*(z*((p1-q1)*(p1-q1)+(p2-q2)*(p2-q2)))-((z+((p1-q1)*(p1-q1)+(p2-q2)*(p2-q2)))-z2)*((z+((p1-q1)*(p1-q1)+(p2-q2)*(p2-q2)))-z2))
  {x y:R} (hx:x=p1+((z+((p1-q1)*(p1-q1)+(p2-q2)*(p2-q2)))-z2)*i*(q1-p1)+t*(i*-(q2-p2))) (hy:y=p2+((z+((p1-q1)*(p1-q1)+(p2-q2)*(p2-q2)))-z2)*i*(q2-p2)+t*(i*(q1-p1))) :
  (x-p1)*(x-p1)+(y-p2)*(y-p2)=z/\(x-q1)*(x-q1)+(y-q2)*(y-q2)=z2:=by
 obtain⟨d,hd⟩:∃d,d=(p1-q1)*(p1-q1)+(p2-q2)*(p2-q2):=⟨_,rfl⟩
 rw[<- hd]at hi ht hx hy;obtain⟨a,ha⟩:∃a,a=z+d-z2:=⟨_,rfl⟩
 rw[<- ha]at ht hx hy;have e1:(x-p1)*(x-p1)+(y-p2)*(y-p2)=(a*a+t*t)*(i*i)*d:=by rw[hx,hy,hd];grind
 have e2:(a*a+t*t)*(i*i)*d=z:=by
  rw[ht];have:(a*a+(4*(z*d)-a*a))*(i*i)*d=z*(i*(d+d))*(i*(d+d)):=by grind
  rw[this,hi];grind
 have e3:(x-q1)*(x-q1)+(y-q2)*(y-q2)=((x-p1)*(x-p1)+(y-p2)*(y-p2))-a*(i*(d+d))+d:=by rw[hx,hy,hd];grind
 refine⟨e1.trans e2,?_⟩;rw[e3,e1,e2,hi,ha];grind
theorem Ph(e t i S:R):(e+t)*i*S=(e+t)*(i*S):=by grind
theorem Rh(z i S W:R):i*S*z-i*(S*W)+W=z*(i*S)-(i*S)*W+W:=by grind
theorem Nx(z W:R):z*1-1*W+W=z:=by grind
theorem Qm(x:R):x*1=x:=by grind
theorem PG(k e t S:R):k*k*S-(k*e+k*e)=k*(k*S)-(k*e+k*e):=by grind
theorem Uj(e t i:R):(e+t)*i*(e+t)-((e+t)*i*e+(e+t)*i*e)=i*(t*t-e*e):=by grind
theorem Jw{p1 p2 q1 q2 c1 c2 z i t k:R}(hi:i*((q1-p1)*(q1-p1)+(q2-p2)*(q2-p2))=1)
  (ht:t*t=((q1-p1)*(q1-p1)+(q2-p2)*(q2-p2))*z-((q1-p1)*(c2-p2)-(q2-p2)*(c1-p1))*((q1-p1)*(c2-p2)-(q2-p2)*(c1-p1)))
  (hk:k=((q1-p1)*(c1-p1)+(q2-p2)*(c2-p2)+t)*i)
  {x y:R} (hx:x=p1+k*(q1-p1)) (hy:y=p2+k*(q2-p2)) :
  (x-c1)*(x-c1)+(y-c2)*(y-c2)=z/\(q1-p1)*(y-p2)-(q2-p2)*(x-p1)=0:=by
 refine⟨?_,by rw[hx,hy];grind⟩;obtain⟨S,hS⟩:∃S,S=(q1-p1)*(q1-p1)+(q2-p2)*(q2-p2):=⟨_,rfl⟩
 obtain⟨e,he⟩:∃e,e=(q1-p1)*(c1-p1)+(q2-p2)*(c2-p2):=⟨_,rfl⟩
 obtain⟨C,hC⟩:∃C,C=(q1-p1)*(c2-p2)-(q2-p2)*(c1-p1):=⟨_,rfl⟩
 obtain⟨W,hW⟩:∃W,W=(c1-p1)*(c1-p1)+(c2-p2)*(c2-p2):=⟨_,rfl⟩
 rw[<- hS]at hi ht;rw[<- he]at hk;rw[<- hC]at ht;have e0:e*e+C*C=S*W:=by rw[he,hC,hS,hW];grind
 have e1:(x-c1)*(x-c1)+(y-c2)*(y-c2)=k*k*S-(k*e+k*e)+W:=by rw[hx,hy,hS,he,hW];grind
 have e2:k*S=e+t:=by rw[hk,Ph,hi,Qm]
 have e3:k*k*S-(k*e+k*e)+W=i*(t*t-e*e)+W:=by
  rw[PG k e t S,e2,hk,Uj]
 rw[e1,e3,ht];have:i*(S*z-C*C-e*e)+W=i*S*z-i*(e*e+C*C)+W:=by grind
 rw[this,e0,Rh,hi,Nx]
theorem QI{W1 W2 N hh i t D w1 w2:R}(hD:D=W1*W1+W2*W2)(hi:i*D=1)(ht:t*t=N*D-hh*hh)
  (h1:w1=(t*W1-hh*-W2)*i) (h2:w2=(t*W2-hh*W1)*i):w1*w1+w2*w2=N/\w1*W2-w2*W1=hh:=by
 have e1:w1*w1+w2*w2=(t*t+hh*hh)*(i*D)*i:=by rw[h1,h2,hD];grind
 have e2:w1*W2-w2*W1=hh*(i*D):=by rw[h1,h2,hD];grind
 refine⟨?_,by rw[e2,hi];grind⟩;rw[e1,ht,hi];have:(N*D-hh*hh+hh*hh)*1*i=N*(i*D):=by grind
 rw[this,hi];grind
theorem Do{u1 u2 w1 w2 n i c s:R}(hn:n=u1*u1+u2*u2)(hi:i*n=1)(hc:c=(u1*w1+u2*w2)*i)(hs:s=(u1*w2-u2*w1)*i) :
  (c*u1-s*u2=w1/\s*u1+c*u2=w2)/\(w1*w1+w2*w2=n->c*c+s*s=1):=by
 have e1:c*u1-s*u2=w1*(i*n):=by rw[hc,hs,hn];grind
 have e2:s*u1+c*u2=w2*(i*n):=by rw[hc,hs,hn];grind
 refine⟨⟨by rw[e1,hi];grind,by rw[e2,hi];grind⟩,fun hw=>?_⟩;have e3:c*c+s*s=(w1*w1+w2*w2)*(i*n)*i:=by rw[hc,hs,hn];grind
 rw[e3,hw,hi];rw[show n*1*i=i*n by grind,hi]
end
end Go.Lw
namespace Go.Lw
open Lean.Grind (CommRing)
def aS{ts:LL}(T:LL)(y:Et ts):Et T:=dE T (sX y)
structure Lf(ts T:LL):Prop where
  pos:gQ T
  hm:Hm (fun y:Et ts=>an pos (aS T y))
  low:∀l:List Rat,l.length<=2^ts.length->aS T (dE ts l)=dE T l
  q:∀q:Rat,aS T (qE q:Et ts)=qE q
  len:ts.length<=T.length
  sg:∀y:Et ts,ak (aS T y)=ak y
  ad:∀x y:Et ts,aS T (x+y)=aS T x+aS T y
  mu:∀x y:Et ts,aS T (x*y)=aS T x*aS T y
theorem ez{ts:LL}(y:Et ts):aS ts y=y:=a7 _ _
theorem uM{ts:LL}(hp:gQ ts):Lf ts ts:=by
 refine⟨hp,?_,fun l _=>ez _,fun q=>ez _,le_refl _,fun y=>by rw[ez],fun x y=>by rw[ez,ez,ez],fun x y=>by rw[ez,ez,ez]⟩;have e:(fun y:Et ts=>an hp (aS ts y))=an hp:=funext fun y=>by rw[ez]
 rw[e];exact OZ hp
theorem Vb{n N:Nat}(hN:N=n+1){l:List Rat}(h:l.length<=2^n):ae N (sh n (ae n l))=ae N l:=by
 subst hN;rw[fS (ee n _).le,a7,fS h]
theorem yc{ts:LL}(X:Et ts)(hp:gQ (aL ts (sX X))):Lf ts (aL ts (sX X)) :=
 ⟨hp,TN X hp,fun l h=>Vb (dD _ _) h,fun q=>mP X q,by rw[dD];omega,fun y=>oJ,fun x y=>qQ X x y,fun x y=>fc X x y⟩
structure CirG(ts T:LL)(x:List Rat×List Rat)(p q:P2 ts)(z z2:Et ts):Prop where
  lf:Lf ts T
  c1:ak ((dE T x.1-aS T p.1)*(dE T x.1-aS T p.1)+(dE T x.2-aS T p.2)*(dE T x.2-aS T p.2)-aS T z)=0
  c2:ak ((dE T x.1-aS T q.1)*(dE T x.1-aS T q.1)+(dE T x.2-aS T q.2)*(dE T x.2-aS T q.2)-aS T z2)=0
section
variable{ts:LL}
theorem Lc{R:Type}[CommRing R]{f:Et ts->R}(h:Hm f)(p q:P2 ts):f (aH p q)=(f p.1-f q.1)*(f p.1-f q.1)+(f p.2-f q.2)*(f p.2-f q.2):=by
 show f ((p.1-q.1)*(p.1-q.1)+(p.2-q.2)*(p.2-q.2))=_;rw[h.add,h.mul,h.mul,h.sub,h.sub]
theorem Nk{R:Type}[CommRing R]{f:Et ts->R}(h:Hm f)(p q:P2 ts)(z z2:Et ts){D:R}(hD:f (aH p q)=D):f (bG p z q z2)=4*(f z*D)-((f z+D)-f z2)*((f z+D)-f z2):=by
 subst hD;unfold bG;rw[h.sub,h.mul,h.mul,h.mul,h.sub,h.add,h.q4]
theorem PY{R:Type}[CommRing R]{f:Et ts->R}(h:Hm f){p q:P2 ts}{z z2:Et ts}(hd2:ak (aH p q+aH p q)≠0){t:R}(ht:t*t=f (bG p z q z2)){x y:R}
  (hx:x=f (eQ p q z z2).1+t*f (j7 p q).1) (hy:y=f (eQ p q z z2).2+t*f (j7 p q).2) :
  (x-f p.1)*(x-f p.1)+(y-f p.2)*(y-f p.2)=f z/\(x-f q.1)*(x-f q.1)+(y-f q.2)*(y-f q.2)=f z2:=by
 have d:=Lc h p q;have hi:=h.inv _ hd2;rw[h.add,d]at hi;rw[Nk h p q z z2 d]at ht;refine Wf hi ht ?_ ?_
 ·rw[hx,Fy];unfold dS j7;dsimp only;show f (p.1+qE ((1:Int):Rat)*iE (aH p q+aH p q)*(z+aH p q-z2)*(q.1-p.1))+t*f (qE ((1:Int):Rat)*iE (aH p q+aH p q)*(0-(q.2-p.2)))=_;simp only[h.add,h.mul,h.sub,h.q1,h.nul,d];generalize(f p.1-f q.1)*(f p.1-f q.1)+(f p.2-f q.2)*(f p.2-f q.2)=D;generalize f (iE (aH p q+aH p q))=i;clear ht hi hx hy;grind
 ·rw[hy,Fy];unfold dS j7;dsimp only;show f (p.2+qE ((1:Int):Rat)*iE (aH p q+aH p q)*(z+aH p q-z2)*(q.2-p.2))+t*f (qE ((1:Int):Rat)*iE (aH p q+aH p q)*(q.1-p.1))=_;simp only[h.add,h.mul,h.sub,h.q1,d];generalize(f p.1-f q.1)*(f p.1-f q.1)+(f p.2-f q.2)*(f p.2-f q.2)=D;generalize f (iE (aH p q+aH p q))=i;clear ht hi hx hy;grind
theorem MR{r:Nat}(tw:Tw ts r){d:Et ts}(hd:ak d≠0):ak (d+d)≠0:=by
 rw[<- zD,wA tw];exact hd
theorem xK{T:LL}(L:Lf ts T){x:List Rat×List Rat}{p q:P2 ts}{z z2:Et ts}(hd2:ak (aH p q+aH p q)≠0){t:Et T}(ht:an L.pos (t*t)=an L.pos (aS T (bG p z q z2)))
  (hx:dE T x.1=aS T (eQ p q z z2).1+t*aS T (j7 p q).1) (hy:dE T x.2=aS T (eQ p q z z2).2+t*aS T (j7 p q).2):CirG ts T x p q z z2:=by
 have g:=PY L.hm hd2 (t:=an L.pos t) ht (x:=an L.pos (dE T x.1)) (y:=an L.pos (dE T x.2)) (by rw[hx];rfl) (by rw[hy];rfl);refine⟨L,?_,?_⟩
 ·refine(fg L.pos).1 ?_;rw[cU,kO,cH,cH,cU,cU];have:=g.1;generalize an L.pos (aS T z)=Z at *;generalize an L.pos (aS T p.1)=P1 at *;generalize an L.pos (aS T p.2)=P2 at *;rw[this];grind
 ·refine(fg L.pos).1 ?_;rw[cU,kO,cH,cH,cU,cU];have:=g.2;rw[this];grind
theorem ji{T:LL}(y:Et T):dE T (sX y)=y:=a7 _ _
theorem LY{r:Nat}(tw:Tw ts r)(hx4:∀X:Et ts,0<ak X->gQ (aL ts (sX X))){p q:P2 ts}{z z2:Et ts}(h0:fT p q z z2=0)(hz:0<ak z) :
  ∀x∈(eU p q z z2).ps,CirG ts (eU p q z z2).ts x p q z z2:=by
 intro x;unfold fT mc at h0;unfold eU;split
 ·rename_i hd;rw[if_pos hd]at h0;unfold lX;split
  ·intro hx;cases hx
  ·intro hx;cases hx
 ·rename_i hd;have hd2:=MR tw hd;split
  ·intro hx;cases hx
  ·rename_i hn;split
   ·rename_i hX;intro hx;rw[List.mem_singleton.1 hx];have hp:gQ ts:=tw.pos;refine xK (uM hp) hd2 (t:=0) ?_ ?_ ?_
    ·refine((fg hp).2 ?_).trans ((fg hp).2 ?_).symm
     ·rw[show(0:Et ts)*0=0 by grind];exact(gE _ _ hp).zero
     ·rw[ez];exact hX
    ·rw[ez,ez,ji];grind
    ·rw[ez,ez,ji];grind
   ·rename_i hX;have hX1:0 < ak (bG p z q z2):=by omega
    have hp:=hx4 _ hX1;intro hx;have L:=yc (bG p z q z2) hp;have e:=yU (bG p z q z2);rcases List.mem_cons.1 hx with rfl |hx
    ·refine xK L hd2 (t := bC (bG p z q z2)) (by rw [e]; rfl) ?_ ?_
     ·rw[ji];exact congrArg Prod.fst (AA (bG p z q z2) (eQ p q z z2) p q)
     ·rw[ji];exact congrArg Prod.snd (AA (bG p z q z2) (eQ p q z z2) p q)
    ·rw [List.mem_singleton.1 hx];refine xK L hd2 (t:=-bC (bG p z q z2)) (by rw [show -bC (bG p z q z2) * -bC (bG p z q z2) = bC (bG p z q z2) * bC (bG p z q z2) by grind,e]; rfl) ?_ ?_
     ·rw[ji,congrArg Prod.fst (EM (bG p z q z2) (eQ p q z z2) p q)];show aO _ _-_*aO _ _=aO _ _+-_*aO _ _;grind
     ·rw[ji,congrArg Prod.snd (EM (bG p z q z2) (eQ p q z z2) p q)];show aO _ _-_*aO _ _=aO _ _+-_*aO _ _;grind
structure LinG(ts T:LL)(x:List Rat×List Rat)(p q c:P2 ts)(z:Et ts):Prop where
  lf:Lf ts T
  c:ak ((dE T x.1-aS T c.1)*(dE T x.1-aS T c.1)+(dE T x.2-aS T c.2)*(dE T x.2-aS T c.2)-aS T z)=0
  l:ak ((aS T q.1-aS T p.1)*(dE T x.2-aS T p.2)-(aS T q.2-aS T p.2)*(dE T x.1-aS T p.1))=0
theorem Pe{R:Type}[CommRing R]{f:Et ts->R}(h:Hm f){p q c:P2 ts}{z:Et ts}(hd:ak (bE p q)≠0){t:R}(ht:t*t=f (aW p q c z)){x y:R}
  (hx:x=f (dS p (bU p q c*iE (bE p q)) (a8 q p)).1+t*f (jV p q).1) (hy:y=f (dS p (bU p q c*iE (bE p q)) (a8 q p)).2+t*f (jV p q).2) :
  (x-f c.1)*(x-f c.1)+(y-f c.2)*(y-f c.2)=f z/\(f q.1-f p.1)*(y-f p.2)-(f q.2-f p.2)*(x-f p.1)=0:=by
 have hi:=h.inv _ hd
 have eS:f (bE p q)=(f q.1-f p.1)*(f q.1-f p.1)+(f q.2-f p.2)*(f q.2-f p.2):=by
  show f ((q.1-p.1)*(q.1-p.1)+(q.2-p.2)*(q.2-p.2))=_;simp only[h.add,h.mul,h.sub]
 have eE:f (bU p q c)=(f q.1-f p.1)*(f c.1-f p.1)+(f q.2-f p.2)*(f c.2-f p.2):=by
  show f ((q.1-p.1)*(c.1-p.1)+(q.2-p.2)*(c.2-p.2))=_;simp only[h.add,h.mul,h.sub]
 have eC:f (iD p q c)=(f q.1-f p.1)*(f c.2-f p.2)-(f q.2-f p.2)*(f c.1-f p.1):=by
  show f ((q.1-p.1)*(c.2-p.2)-(q.2-p.2)*(c.1-p.1))=_;simp only[h.mul,h.sub]
 have eX:f (aW p q c z)=f (bE p q)*f z-f (iD p q c)*f (iD p q c):=by
  show f (bE p q*z-iD p q c*iD p q c)=_;simp only[h.mul,h.sub]
 rw[eX,eC,eS]at ht;rw[eS]at hi;refine Jw hi ht (k:=(f (bU p q c)+t)*f (iE (bE p q))) (by rw[eE]) ?_ ?_
 ·rw[hx];unfold dS jV;show f (p.1+bU p q c*iE (bE p q)*(q.1-p.1))+t*f (qE ((1:Int):Rat)*iE (bE p q)*(q.1-p.1))=_;simp only[h.add,h.mul,h.sub,h.q1];generalize f (iE (bE p q))=i;generalize f (bU p q c)=e;clear ht hi hx hy eS eE eC eX;grind
 ·rw[hy];unfold dS jV;show f (p.2+bU p q c*iE (bE p q)*(q.2-p.2))+t*f (qE ((1:Int):Rat)*iE (bE p q)*(q.2-p.2))=_;simp only[h.add,h.mul,h.sub,h.q1];generalize f (iE (bE p q))=i;generalize f (bU p q c)=e;clear ht hi hx hy eS eE eC eX;grind
theorem yL{T:LL}(L:Lf ts T){x:List Rat×List Rat}{p q c:P2 ts}{z:Et ts}(hd:ak (bE p q)≠0){t:Et T}(ht:an L.pos (t*t)=an L.pos (aS T (aW p q c z)))
  (hx:dE T x.1=aS T (dS p (bU p q c*iE (bE p q)) (a8 q p)).1+t*aS T (jV p q).1) (hy:dE T x.2=aS T (dS p (bU p q c*iE (bE p q)) (a8 q p)).2+t*aS T (jV p q).2):LinG ts T x p q c z:=by
 have g:=Pe L.hm hd (t:=an L.pos t) ht (x:=an L.pos (dE T x.1)) (y:=an L.pos (dE T x.2)) (by rw[hx];rfl) (by rw[hy];rfl);refine⟨L,?_,?_⟩
 ·refine(fg L.pos).1 ?_;rw[cU,kO,cH,cH,cU,cU];have:=g.1;rw[this];grind
 ·refine(fg L.pos).1 ?_;rw[cU,cH,cH,cU,cU,cU,cU];exact g.2
theorem UA{r:Nat}(tw:Tw ts r)(hx4:∀X:Et ts,0<ak X->gQ (aL ts (sX X))){p q c:P2 ts}{z:Et ts}(h0:fR p q=0) :
  ∀x∈(eY p q c z).ps,LinG ts (eY p q c z).ts x p q c z:=by
 intro x;unfold fR at h0;unfold eY;split
 ·intro hx;cases hx
 ·rename_i hd;split
  ·intro hx;cases hx
  ·rename_i hn;split
   ·rename_i hX;intro hx;rw[List.mem_singleton.1 hx];have hp:gQ ts:=tw.pos;refine yL (uM hp) hd (t:=0) ?_ ?_ ?_
    ·refine((fg hp).2 ?_).trans ((fg hp).2 ?_).symm
     ·rw[show(0:Et ts)*0=0 by grind];exact(gE _ _ hp).zero
     ·rw[ez];exact hX
    ·rw[ez,ez,ji];grind
    ·rw[ez,ez,ji];grind
   ·rename_i hX
    have hX1:0<ak (aW p q c z):=by
     rcases(gE _ _ tw.pos).cs (aW p q c z)with g |g |g
     ·exact absurd g hn
     ·exact absurd g hX
     ·show 0<sg _ _ _;rw[g];decide
    have hp:=hx4 _ hX1;intro hx;have L:=yc (aW p q c z) hp;have e:=yU (aW p q c z);rcases List.mem_cons.1 hx with rfl |hx
    ·refine yL L hd (t := bC (aW p q c z)) (by rw [e]; rfl) ?_ ?_
     ·rw[ji];exact congrArg Prod.fst (CO (aW p q c z) p q c)
     ·rw[ji];exact congrArg Prod.snd (CO (aW p q c z) p q c)
    ·rw [List.mem_singleton.1 hx];refine yL L hd (t:=-bC (aW p q c z)) (by rw [show -bC (aW p q c z) * -bC (aW p q c z) = bC (aW p q c z) * bC (aW p q c z) by grind,e]; rfl) ?_ ?_
     ·rw[ji,congrArg Prod.fst (CY (aW p q c z) p q c)];show aO _ _-_*aO _ _=aO _ _+-_*aO _ _;grind
     ·rw[ji,congrArg Prod.snd (CY (aW p q c z) p q c)];show aO _ _-_*aO _ _=aO _ _+-_*aO _ _;grind
end
end Go.Lw
namespace Go.Lw
theorem Al(r:(k:Nat)->T k)(q:Rat):∀(k:Nat){a c:List Rat},(∀i,i<2^k->c.getD i 0=q*a.getD i 0)->ae k c=T.mul r k (T.ofQ k q) (ae k a)
 |0,a,c,h=>h 0 (by decide)
 |k+1,a,c,h=>by
  have h1:=Al r q k (a:=a.take (2^k)) (c:=c.take (2^k)) (fun i hi=>by rw[kf,kf,if_pos hi,if_pos hi];exact h i (by rw[Nat.pow_succ];omega));have h2:=Al r q k (a:=a.drop (2^k)) (c:=c.drop (2^k)) (fun i hi=>by rw[kr,kr];exact h _ (by rw[Nat.pow_succ];omega));show(ae k (c.take (2^k)),ae k (c.drop (2^k)))=T.mul r (k+1) (T.ofQ k q,T.zero k) (ae k (a.take (2^k)),ae k (a.drop (2^k)));rw[T.mul_comm,T.mul_half,h1,h2,T.mul_comm r k (ae k (a.take _)),T.mul_comm r k (ae k (a.drop _))]
section
variable{ts:LL}
def Bz(e:Nat)(x:Et ts):Prop:=Nm ts.length e (sX x)
theorem Bz.mono{e f:Nat}{x:Et ts}(h:Bz e x)(hf:e<=f):Bz f x:=Nm.mono h hf
theorem Bz.add{e f:Nat}{x y:Et ts}(hx:Bz e x)(hy:Bz f y):Bz (e+f+1) (x+y):=Nm.addT hx hy
theorem Bz.sub{e f:Nat}{x y:Et ts}(hx:Bz e x)(hy:Bz f y):Bz (e+f+1) (x-y):=Nm.subT hx hy
theorem Bz.neg{e:Nat}{x:Et ts}(hx:Bz e x):Bz e (-x):=Nm.negT hx
theorem Bz.mul{r K e f:Nat}(tw:Tw ts r)(hK:eB r ts.length<=K){x y:Et ts}(hx:Bz e x)(hy:Bz f y):Bz (e+f+K) (x*y):=by
 have h:=Nm.mul tw rfl hx hy;have e1:∀z:Et ts,ae ts.length (sX z)=z:=fun z=>a7 _ _
 rw[e1,e1]at h;exact Nm.mono h (Nat.add_le_add_left hK _)
theorem Bz.q{e:Nat}{q:Rat}(h5:ts.length<=5)(hq:Cb e [q]):Bz e (qE q:Et ts):=by
 unfold Bz;rw[rI];exact Nm.ofQ h5 hq
theorem Bz.qm{e f:Nat}{q:Rat}{x:Et ts}(hq:Cb e [q])(hx:Bz f x):Bz (e+f) (qE q*x):=by
 obtain⟨D,N,h1,h2,h3⟩:=hq;obtain⟨D',N',k1,k2,k3⟩:=hx.cb;obtain⟨n,hn,hN⟩:=h1.2 q (List.mem_singleton.2 rfl);have hx2:ae ts.length (sX x)=x:=a7 _ _
 have hd:ae ts.length ((sX x).map (q*·))=T.mul (am ts) ts.length (T.ofQ ts.length q) (ae ts.length (sX x)):=Al _ q _ (fun i _=>by
  rw[getD_eq_getElem?_getD,getElem?_map,getD_eq_getElem?_getD];cases(sX x)[i]? with
  |none=>exact(Rat.mul_zero q).symm
  |some v=>rfl)
 rw[hx2]at hd
 have hc:Cb (e+f) ((sX x).map (q*·)):=by
  refine⟨D*D',N*N',⟨Nat.mul_pos h1.1 k1.1,?_⟩,?_,?_⟩
  ·intro z hz;obtain⟨y,hy,rfl⟩:=List.mem_map.1 hz;obtain⟨m,hm,hM⟩:=k1.2 y hy;refine⟨n*m,?_,?_⟩
   ·rw[Int.natCast_mul,Rat.intCast_mul,Rat.intCast_mul,<- hn,<- hm];grind
   ·rw[Int.natAbs_mul];exact Nat.mul_le_mul hN hM
  ·rw[pow_add];exact Nat.mul_le_mul h2 k2
  ·rw[pow_add];exact Nat.mul_le_mul h3 k3
 have hnl:Nl ts.length ((sX x).map (q*·)):=by
  rcases hx.nl with h |⟨j,hj,h⟩
  ·exact .inl (by rw[h];rfl)
  ·exact .inr ⟨j,hj,by rw[length_map];exact h⟩
 refine⟨hx.five,ee _ _,?_⟩;have:=hc.sh hnl;rw[hd]at this;exact this
theorem Bz.mq{e f:Nat}{q:Rat}{x:Et ts}(hx:Bz f x)(hq:Cb e [q]):Bz (e+f) (x*qE q):=by
 rw[show x*qE q=qE q*x by grind];exact hx.qm hq
theorem Bz.iq{e f:Nat}{q:Rat}{x:Et ts}(hx:Bz f x)(hq:Cb e [q])(h0:q≠0):Bz (e+f) (x*iE (qE q)):=by
 have h:(iE (qE q):Et ts)=qE (1/q):=wY _ _ q;rw[h];exact hx.mq (hq.inv1 h0)
theorem Bz.iv{r f j I:Nat}{y:Et ts}(tw:Tw ts r)(hy:Bz f y)(nb:Nl j (sX y))(hj:j<=ts.length)(h0:ak y≠0)(hI:iB r j f<=I)(hs:I<=50000000000):Bz I (iE y):=by
 have hf:=Ar r j f;have hl:=jN ts.length;have e1:ae ts.length (sX y)=y:=a7 _ _;obtain⟨L,_,k2,k3,k4⟩:=Bh (b:=sX y) tw hy hj nb (by rw[e1];exact h0) oz oz;rw[e1]at k4;have:=k3.sh k2;rw[k4]at this;exact⟨tw.five,ee _ _,this.mono hI⟩
structure Pz(n ec ex:Nat)(p:Pq):Prop where
  c:Nm n ec p.c
  s:Nm n ec p.s
  x:Nm n ex p.x
  y:Nm n ex p.y
theorem Pz.mono{n n' a b a' b':Nat}{p:Pq}(h:Pz n a b p)(hn:n<=n')(h5:n'<=5)(ha:a<=a')(hb:b<=b'):Pz n' a' b' p :=
 ⟨⟨h5,h.c.nl.mono hn,h.c.cb.mono ha⟩,⟨h5,h.s.nl.mono hn,h.s.cb.mono ha⟩,⟨h5,h.x.nl.mono hn,h.x.cb.mono hb⟩,⟨h5,h.y.nl.mono hn,h.y.cb.mono hb⟩⟩
theorem F1{s t e f:Nat}{u p:Rat×Rat}{w o:P2 ts}(hu:Sm t u)(hp:Sm s p)(h0:b7 u u≠0)(w1:Bz e w.1)(w2:Bz e w.2)(o1:Bz f o.1)(o2:Bz f o.2) :
  Pz ts.length (2*e+6*t+2) (f+4*e+12*t+2*s+6) (gL u w p o):=by
 have u1:=Cb.one hu.x;have u2:=Cb.one hu.y;have p1:=Cb.one hp.x;have p2:=Cb.one hp.y;have n:=Cb.one (hu.dot hu);have c:=(((w1.qm u1).add (w2.qm u2)).iq n h0).mono (f:=2*e+6*t+2) oz;have d:=(((w2.qm u1).sub (w1.qm u2)).iq n h0).mono (f:=2*e+6*t+2) oz;exact⟨c,d,(o1.sub ((c.mq p1).sub (d.mq p2))).mono oz,(o2.sub ((d.mq p1).add (c.mq p2))).mono oz⟩
theorem re{a:List Rat}{e:Nat}(h:Nm ts.length e a):Bz e (dE ts a):=by
 have:=h.cb.sh h.nl;exact⟨h.five,ee _ _,this⟩
theorem Qt{s f:Nat}{p:Rat×Rat}{c d:Rat}{o:P2 ts}{g:Nat}(hc:Cb g [c])(hd:Cb g [d])(hp:Sm s p)(h5:ts.length<=5)(o1:Bz f o.1)(o2:Bz f o.2) :
  Pz ts.length (g+1) (f+2*g+2*s+4) (gL (((1:Int):Rat),0) ((qE c,qE d):P2 ts) p o):=by
 have e0:∀x:Et ts,(qE ((1:Int):Rat):Et ts)*x=x:=fun x=>by
  have:(qE ((1:Int):Rat):Et ts)=1:=rfl;rw[this];grind
 have e1:∀x:Et ts,(qE (0:Rat):Et ts)*x=0:=fun x=>by
  have:(qE (0:Rat):Et ts)=0:=rfl;rw[this];grind
 have e2:(iE (jO (((1:Int):Rat),0)):Et ts)=1:=by
  show iE (qE (b7 (((1:Int):Rat),0) (((1:Int):Rat),0)))=_;rw[show b7 (((1:Int):Rat),(0:Rat)) (((1:Int):Rat),(0:Rat))=1 by decide +kernel];exact AP
 have ec:du (((1:Int):Rat),0) ((qE c,qE d):P2 ts)=qE c:=by
  unfold du;rw[e0,e1,e2];grind
 have ed:dq (((1:Int):Rat),0) ((qE c,qE d):P2 ts)=qE d:=by
  unfold dq;rw[e0,e1,e2];grind
 have p1:=Cb.one hp.x;have p2:=Cb.one hp.y;have c1:Bz g (qE c:Et ts):=Bz.q h5 hc;have d1:Bz g (qE d:Et ts):=Bz.q h5 hd;refine⟨?_,?_,?_,?_⟩
 ·show Bz _ (du _ _);rw[ec];exact c1.mono oz
 ·show Bz _ (dq _ _);rw[ed];exact d1.mono oz
 ·show Bz _ (pI _ _ p o);unfold pI;rw[ec,ed];exact(o1.sub ((c1.mq p1).sub (d1.mq p2))).mono oz
 ·show Bz _ (qR _ _ p o);unfold qR;rw[ec,ed];exact(o2.sub ((d1.mq p1).add (c1.mq p2))).mono oz
structure Xz(ts:LL)(r X:Nat)(us:LL):Prop where
  tw:Tw us (r+X)
  up:ts.length<=us.length
  ln:us.length<=ts.length+1
theorem yW{r X:Nat}(tw:Tw ts r)(hx:r+X<=5000000000):Xz ts r X ts:=⟨⟨tw.three,tw.len,tw.pos,tw.rb.mono oz,hx⟩,le_refl _,by omega⟩
theorem vJ{r X:Nat}(tw:Tw ts r)(hn:ts.length<=1)(hx:r+X<=5000000000){x:Et ts}(h:Bz X x)(hs:0<=ak x):Xz ts r X (aL ts (sX x)) :=
 ⟨BG tw oz h hx (by rw[show ae ts.length (sX x)=x from a7 _ _];exact hs),by rw[dD];omega,by rw[dD];omega⟩
theorem Bz.up{e:Nat}{X x:Et ts}(h:Bz e x)(hn:ts.length<=1):Bz e (aO X x):=by
 have h1:Nm (aL ts (sX X)).length e (sX x):=lV h oz;exact re h1
structure Szs(n r a b X K K' I J:Nat):Prop where
  n1:n<=1
  hK:eB r n<=K
  hX:24*a+8*K+5*b+23<=X
  hL:r+X<=5000000000
  hK':eB (r+X) (n+1)<=K'
  hI:iB r n (8*a+2*K+8)<=I
  hJ:iB (r+X) n (8*a+2*K+8)<=J
  hJ':J<=50000000000
  kk:K<=K'
  ij:I<=J
theorem Szs.kx{n r a b X K K' I J:Nat}(h:Szs n r a b X K K' I J){us:LL}(hu:us.length<=n+1):eB (r+X) us.length<=K':=le_trans (gV _ hu) h.hK'
section
variable{r a b X K K' I J:Nat}(Z:Szs ts.length r a b X K K' I J)(tw:Tw ts r)
include Z tw
theorem z7{p q:P2 ts}(p1:Bz a p.1)(p2:Bz a p.2)(q1:Bz a q.1)(q2:Bz a q.2):Bz (8*a+2*K+5) (jT (a8 q p) (a8 q p)):=by
 have v1:=q1.sub p1;have v2:=q2.sub p2;exact((v1.mul tw Z.hK v1).add (v2.mul tw Z.hK v2)).mono oz
theorem zx{y:Et ts}(hy:Bz (8*a+2*K+8) y)(h0:ak y≠0):Bz I (iE y) :=
 hy.iv tw (ee _ _) (le_refl _) h0 Z.hI (by have:=Z.ij;have:=Z.hJ';omega)
theorem Bx{x y:Et ts}(hx:Bz X x)(hs:0<=ak x)(hy:Bz (8*a+2*K+8) y)(h0:ak y≠0):Bz J (iE (aO x y)):=by
 have E:=vJ tw Z.n1 Z.hL hx hs
 have e1:sX (aO x y)=sX y:=by
  have:=(uA (X:=x) Z.n1 _ y hy).2;exact this
 refine(hy.up Z.n1).iv E.tw (j:=ts.length) (by rw[e1];exact ee _ _) E.up (by rw[oJ];exact h0) Z.hJ Z.hJ'
theorem x6{x:Et ts}:Bz 1 (dE (aL ts (sX x)) (cm ts.length)):=by have _:=tw;exact re (rO (by have:=Z.n1;omega))
theorem Ob{p q:P2 ts}{z z2:Et ts}(p1:Bz a p.1)(p2:Bz a p.2)(q1:Bz a q.1)(q2:Bz a q.2)(hz:Bz b z)(hz2:Bz b z2)(h0:fT p q z z2=0) :
  Xz ts r X (eU p q z z2).ts/\∀m∈(eU p q z z2).ps,Nm (eU p q z z2).ts.length (13*a+2*b+5*K+2*K'+I+J+20) m.1/\Nm (eU p q z z2).ts.length (13*a+2*b+5*K+2*K'+I+J+20) m.2:=by
 have hn:=Z.n1;have hkk:=Z.kk;have hd:Bz (8*a+2*K+5) (aH p q):=z7 Z tw (p:=q) (q:=p) q1 q2 p1 p2;have hm:=(hz.add hd).sub hz2;have q4:Cb 3 [((4:Int):Rat)]:=Cb.int (z:=4) (by decide);have q2':Cb 2 [((2:Int):Rat)]:=Cb.int (z:=2) (by decide);have qm1:Cb 1 [((-1:Int):Rat)]:=Cb.int (z:=-1) (by decide)
 have hX:Bz X (bG p z q z2):=by
  have h:=((hz.mul tw Z.hK hd).qm q4).sub (hm.mul tw Z.hK hm);have h2:=h.mono (f:=X) (by have:=Z.hX;omega);exact h2
 have same:=yW (X:=X) tw Z.hL;have v1:=q1.sub p1;have v2:=q2.sub p2;unfold fT mc at h0;unfold eU lX
 by_cases hs:ak (aH p q)=0
 ·rw[if_pos hs]at h0 ⊢
  by_cases hz0:ak (z-z2)≠0
  ·rw[if_pos hz0];exact⟨same,fun m hm=>by cases hm⟩
  ·rw[if_neg hz0]
   by_cases hp:0<ak z
   ·rw[if_pos ⟨Decidable.not_not.1 hz0,hp⟩]at h0;cases h0
   ·rw[if_neg hp]
    have n0:Bz 0 (0:Et ts):=by
     have:=Bz.q (ts:=ts) (e:=0) (q:=0) oz (Cb.int (z:=0) (by decide));exact this
    refine⟨same,ip ⟨?_,?_⟩⟩
    ·exact(p1.add (n0.mul tw Z.hK p1)).mono (f:=13*a+2*b+5*K+2*K'+I+J+20) oz
    ·exact(p2.add (n0.mul tw Z.hK p2)).mono (f:=13*a+2*b+5*K+2*K'+I+J+20) oz
 ·rw [if_neg hs];have ht0:ak (d7 (aH p q)) ≠ 0:=by rw [wA tw]; exact hs
  have ht:Bz (8*a+2*K+8) (d7 (aH p q)):=Bz.mono (e:=2+(8*a+2*K+5)) (hd.qm q2') oz
  by_cases hx0:ak (bG p z q z2)<0
  ·rw[if_pos hx0];exact⟨same,fun m hm=>by cases hm⟩
  ·rw[if_neg hx0];have hk:=hm.mul tw Z.hK (zx Z tw ht ht0);have f1:Bz (11*a+2*b+4*K+I+10) (eQ p q z z2).1:=(p1.add (hk.mul tw Z.hK v1)).mono oz;have f2:Bz (11*a+2*b+4*K+I+10) (eQ p q z z2).2:=(p2.add (hk.mul tw Z.hK v2)).mono oz
   by_cases hx1:ak (bG p z q z2)=0
   ·rw[if_pos hx1];exact⟨same,ip ⟨f1.mono oz,f2.mono oz⟩⟩
   ·rw [if_neg hx1];have hpos:0 <= ak (bG p z q z2):=by omega
    have E:=vJ tw hn Z.hL hX hpos;have hkx:=Z.kx E.ln;have s1:=(x6 Z tw (x:=bG p z q z2)).mul E.tw hkx (Bx Z tw hX hpos ht ht0);have s2:=s1.qm qm1;have w1:=(v2.up (X:=bG p z q z2) hn).qm qm1;have w2:=v1.up (X:=bG p z q z2) hn;have g1:=f1.up (X:=bG p z q z2) hn;have g2:=f2.up (X:=bG p z q z2) hn;exact⟨E,kN ⟨(g1.add (s1.mul E.tw hkx w1)).mono oz,(g2.add (s1.mul E.tw hkx w2)).mono oz⟩ ⟨(g1.add (s2.mul E.tw hkx w1)).mono oz,(g2.add (s2.mul E.tw hkx w2)).mono oz⟩⟩
theorem QD{p q o:P2 ts}{z:Et ts}(p1:Bz a p.1)(p2:Bz a p.2)(q1:Bz a q.1)(q2:Bz a q.2)(o1:Bz a o.1)(o2:Bz a o.2)(hz:Bz b z)(h0:fR p q=0) :
  Xz ts r X (eY p q o z).ts/\∀m∈(eY p q o z).ps,Nm (eY p q o z).ts.length (13*a+2*b+5*K+2*K'+I+J+20) m.1/\Nm (eY p q o z).ts.length (13*a+2*b+5*K+2*K'+I+J+20) m.2:=by
 have hn:=Z.n1;have hkk:=Z.kk;have hS:=(z7 Z tw p1 p2 q1 q2)
 have v1:=q1.sub p1;have v2:=q2.sub p2;have w1:=o1.sub p1;have w2:=o2.sub p2;have hE:Bz (8*a+2*K+5) (bU p q o):=((v1.mul tw Z.hK w1).add (v2.mul tw Z.hK w2)).mono oz;have hC:Bz (8*a+2*K+5) (iD p q o):=((v1.mul tw Z.hK w2).sub (v2.mul tw Z.hK w1)).mono oz;have hX:Bz X (aW p q o z):=((hS.mul tw Z.hK hz).sub (hC.mul tw Z.hK hC)).mono (by have:=Z.hX;omega);have same:=yW (X:=X) tw Z.hL;unfold fR at h0;unfold eY
 by_cases hs:ak (bE p q)=0
 ·rw[if_pos hs]at h0;cases h0
 ·rw[if_neg hs]
  by_cases h1:ak (aW p q o z)=-1
  ·rw[if_pos h1];exact⟨same,fun m hm=>by cases hm⟩
  ·rw[if_neg h1]
   by_cases h2:ak (aW p q o z)=0
   ·rw[if_pos h2];have hk:=hE.mul tw Z.hK (zx Z tw (hS.mono oz) hs);exact⟨same,ip ⟨(p1.add (hk.mul tw Z.hK v1)).mono (f:=13*a+2*b+5*K+2*K'+I+J+20) oz,(p2.add (hk.mul tw Z.hK v2)).mono (f:=13*a+2*b+5*K+2*K'+I+J+20) oz⟩⟩
   ·rw[if_neg h2]
    have hpos:0<=ak (aW p q o z):=by
     have:=T.sgn_cases (am ts) ts.length (aW p q o z);have e:ak (aW p q o z)=T.sgn (am ts) ts.length (aW p q o z):=rfl;omega
    have E:=vJ tw hn Z.hL hX hpos;have hkx:=Z.kx E.ln;have hi:=Bx Z tw hX hpos (hS.mono oz) hs;have rt:=x6 Z tw (x:=aW p q o z);have k1:=((hE.up (X:=aW p q o z) hn).add rt).mul E.tw hkx hi;have k2:=((hE.up (X:=aW p q o z) hn).sub rt).mul E.tw hkx hi;have g1:=p1.up (X:=aW p q o z) hn;have g2:=p2.up (X:=aW p q o z) hn;have u1:=v1.up (X:=aW p q o z) hn;have u2:=v2.up (X:=aW p q o z) hn;exact⟨E,kN ⟨(g1.add (k1.mul E.tw hkx u1)).mono oz,(g2.add (k1.mul E.tw hkx u2)).mono oz⟩ ⟨(g1.add (k2.mul E.tw hkx u1)).mono oz,(g2.add (k2.mul E.tw hkx u2)).mono oz⟩⟩
end
end
def Cs(s:Nat)(l:Li):Prop:=∀b∈l.bo,∀m∈b.pts,Qb s m.x.q/\Qb s m.y.q
section
variable{s:Nat}{l:Li}(hl:l.ok)(hli:ax l=0)(hcs:Cs s l)
include hl hli hcs
theorem r6{body pt:Int}(h1:bw body l.bo.length=true)(h2:bw pt (cF l body).length=true):Sm s (aX l body pt):=by
 obtain⟨n,k,bd,m,h⟩:=q6 hl hli h1 h2;obtain⟨c1,c2⟩:=hcs bd (mem_of_getElem? h.gbd) m (mem_of_getElem? h.gm);rw[h.ex,bM]at c1;rw[h.ey,bM]at c2;exact⟨c1,c2⟩
theorem od{i:Nat}{j:Jt}(hj:l.jo[i]?=some j){b:Int}(h:j.a=b\/j.b=b):Sm s (aj l j b):=by
 obtain⟨i1,i2,i3,i4,_⟩:=cZ hli hj;unfold aj
 by_cases e:j.a=b
 ·rw[if_pos e];subst e;exact r6 hl hli hcs i1 i3
 ·rw[if_neg e];rcases h with h |h
  ·exact absurd h e
  ·subst h;exact r6 hl hli hcs i2 i4
theorem tL{E r K:Nat}{a:As}(al:AB a)(hc:bA a.rs=0)(tw:Tw (llq a.rs) r)(hK:eB r (llq a.rs).length<=K){body pt:Int}(h1:bw body l.bo.length=true)(h2:bw pt (cF l body).length=true)(hb:Pd E a body) :
  Bz (3*E+2*s+2*K+10) (bn l a body pt).1/\Bz (3*E+2*s+2*K+10) (bn l a body pt).2:=by
 obtain⟨n,k,bd,m,b,hp⟩:=sH hl hli al hc h1 h2 hb;obtain⟨c1,c2⟩:=hcs bd (mem_of_getElem? hp.mp.gbd) m (mem_of_getElem? hp.mp.gm);have h:=vB tw hp.ok c1 c2;have hk:kB r (llq a.rs).length<=K:=hK;unfold bn Bz;rw[hp.eq];exact⟨h.1.mono oz,h.2.mono oz⟩
theorem sP{E r K:Nat}{a:As}(al:AB a)(hc:bA a.rs=0)(tw:Tw (llq a.rs) r)(hK:eB r (llq a.rs).length<=K){i:Nat}{j:Jt}(hj:l.jo[i]?=some j){b:Int}(h:PinP E l a j b) :
  Bz (3*E+2*s+2*K+10) (aK l a j b).1/\Bz (3*E+2*s+2*K+10) (aK l a j b).2:=by
 obtain⟨i1,i2,i3,i4,_⟩:=cZ hli hj;unfold aK;rcases h.tie with⟨e,hb⟩ |⟨e,e2,hb⟩
 ·rw[if_pos e];exact tL hl hli hcs al hc tw hK i2 i4 hb
 ·rw[if_neg e];exact tL hl hli hcs al hc tw hK i1 i3 hb
end
theorem Bz.upX{ts us:LL}{e:Nat}{x:Et ts}(h:Bz e x)(h1:ts.length<=us.length)(h5:us.length<=5):Bz e (dE us (sX x)):=re ⟨h5,Nl.mono h.nl h1,h.cb⟩
theorem xw{s:Nat}{p q:Rat×Rat}(hp:Sm s p)(hq:Sm s q):Cb (8*s+5) [bY p q]:=by
 have h:=(hp.sub hq).dot (hp.sub hq);exact Cb.one (h.mono oz)
abbrev wZ(a b K K' I J:Nat):Nat:=14*a+3*b+5*K+3*K'+I+J+25
abbrev oZ(s a b K K' I J:Nat):Nat:=a+4*wZ a b K K' I J+26*s+18
theorem zP{n a b ec ex e:Nat}{p:Pq}(h:Pz n ec ex p)(h1:ec<=e)(h2:ex<=e):Pq.ok n e p:=⟨h.c.mono h1,h.s.mono h1,h.x.mono h2,h.y.mono h2⟩
section
variable{ts:LL}{r a b X K K' I J:Nat}(Z:Szs ts.length r a b X K K' I J)(tw:Tw ts r)
include Z tw
theorem Iu{s:Nat}{m:Mt}(hx:Xz ts r X m.ts)(hm:∀x∈m.ps,Nm m.ts.length (13*a+2*b+5*K+2*K'+I+J+20) x.1/\Nm m.ts.length (13*a+2*b+5*K+2*K'+I+J+20) x.2){hs:List Hd}
  (hh:∀h∈hs,Sm s h.p/\Sm s h.c/\b7 (cf h.c h.p) (cf h.c h.p)≠0/\∃o:P2 ts,h.a=P2.l o/\Bz a o.1/\Bz a o.2) :
  ∀sv∈kt m hs,Xz ts r X sv.ts/\∀p∈sv.ps,Pq.ok sv.ts.length (oZ s a b K K' I J) p:=by
 have _:=Z;have _:=tw;intro sv h1;unfold kt at h1;obtain⟨i,hi,rfl⟩:=List.mem_map.1 h1;obtain⟨x,hxx⟩:=aq (List.mem_range.1 hi);obtain⟨n1,n2⟩:=hm x (mem_of_getElem? hxx);refine⟨hx,fun p hp=>?_⟩;unfold j9 at hp;rw[aB hxx]at hp;obtain⟨h,h2,rfl⟩:=List.mem_map.1 hp;obtain⟨hp1,hc1,h0,o,ea,o1,o2⟩:=hh h h2;have h5:=hx.tw.five;have u1:=o1.upX hx.up h5;have u2:=o2.upX hx.up h5;have w1:=re n1;have w2:=re n2;have e1:h.a.1=sX o.1:=by rw[ea]
 have e2:h.a.2=sX o.2:=by rw[ea]
 have z:=F1 (ts:=m.ts) (u:=cf h.c h.p) (p:=h.p) (w:=kg m.ts h x) (o:=mr m.ts h) (e:=13*a+2*b+5*K+2*K'+I+J+20+a+1) (f:=a) (hc1.sub hp1) hp1 h0
  (by unfold kg;rw[e1];exact w1.sub u1) (by unfold kg;rw[e2];exact w2.sub u2) (by unfold mr;rw[e1];exact u1) (by unfold mr;rw[e2];exact u2)
 exact zP (a:=a) (b:=b) z (by show _<=a+4*(14*a+3*b+5*K+3*K'+I+J+25)+26*s+18;omega) (by show _<=a+4*(14*a+3*b+5*K+3*K'+I+J+25)+26*s+18;omega)
theorem QS{s:Nat}{us:LL}(hx:Xz ts r X us){R:Rp}{q:List Rat}(hv:Sm (2*s+1) R.v)(hp:Sm s R.p)(h0:b7 R.v R.v≠0)(hq:Bz 1 (dE us q))(w1:Bz (2*a+1) (dE us R.w.1))(w2:Bz (2*a+1) (dE us R.w.2))(hh:Bz b (dE us R.h))
  (hd:Bz J (iE (dE us R.d))) (a1:Bz a (dE us R.a.1)) (a2:Bz a (dE us R.a.2)):Pq.ok us.length (oZ s a b K K' I J) (qz us R q):=by
 have _:=tw;have hkx:=Z.kx hx.ln;have x1:=(((hq.mul hx.tw hkx w1).sub (hh.mul hx.tw hkx w2.neg)).mul hx.tw hkx hd)
 have x2:=(((hq.mul hx.tw hkx w2).sub (hh.mul hx.tw hkx w1)).mul hx.tw hkx hd)
 have z:=F1 (ts:=us) (u:=R.v) (p:=R.p) (w:=n6 us q R.h R.d R.w) (o:=(dE us R.a.1,dE us R.a.2)) (e:=wZ a b K K' I J) (f:=a) hv hp h0
  (x1.mono (by show _<=14*a+3*b+5*K+3*K'+I+J+25;omega)) (x2.mono (by show _<=14*a+3*b+5*K+3*K'+I+J+25;omega)) a1 a2
 exact zP (a:=a) (b:=b) z (by show _<=a+4*(14*a+3*b+5*K+3*K'+I+J+25)+26*s+18;simp only[wZ];omega) (by show _<=a+4*(14*a+3*b+5*K+3*K'+I+J+25)+26*s+18;simp only[wZ];omega)
end
section
variable{s r b X K K' I J E:Nat}{l:Li}{a:As}(D:DyR l a)(hn:(llq a.rs).length<=1)(hcs:Cs s l)(tw:Tw (llq a.rs) r)
  (Z:Szs (llq a.rs).length r (3*E+2*s+2*K+10) b X K K' I J) (hb:8*s+5<=b)
include D hn hcs tw Z hb
theorem L9{g:Gr}{i k z0 z1 z2:Int}{j0 j1 j2:Jt}(P:RrrP E l a g i k z0 z1 z2 j0 j1 j2) :
  ∀sv∈lH l a i k j0 j1 j2,Xz (llq a.rs) r X sv.ts/\∀p∈sv.ps,Pq.ok sv.ts.length (oZ s (3*E+2*s+2*K+10) b K K' I J) p:=by
 have _:=hn;have hq0:=od D.hl D.li hcs P.h0 P.p0.or;have hq1:=od D.hl D.li hcs P.h1 P.p1.or;have hq2:=od D.hl D.li hcs P.h2 P.t1;have hq3:=od D.hl D.li hcs P.h2 P.t2;obtain⟨y1,y2⟩:=sP D.hl D.li hcs D.al D.hc tw Z.hK P.h0 P.p0;obtain⟨y3,y4⟩:=sP D.hl D.li hcs D.al D.hc tw Z.hK P.h1 P.p1;have z1:Bz b (qE (bY (aj l j2 i) (aj l j0 i)):Et (llq a.rs)):=Bz.q tw.five ((xw hq2 hq0).mono hb);have z2:Bz b (qE (bY (aj l j2 k) (aj l j1 k)):Et (llq a.rs)):=Bz.q tw.five ((xw hq3 hq1).mono hb);unfold lH
 by_cases h1:gk [cf (aj l j2 i) (aj l j0 i),cf (aj l j2 k) (aj l j1 k)]=true
 ·rw[if_pos h1];intro sv h;cases h
 ·rw[if_neg h1];obtain⟨w1,w2⟩:=wJ (Bool.eq_false_iff.2 h1)
  by_cases h2:fT (aK l a j0 i) (aK l a j1 k) (qE (bY (aj l j2 i) (aj l j0 i))) (qE (bY (aj l j2 k) (aj l j1 k)))≠0
  ·rw[if_pos h2];intro sv h;cases h
  ·rw[if_neg h2];obtain⟨hx,hm⟩:=Ob Z tw y1 y2 y3 y4 z1 z2 (Decidable.not_not.1 h2);exact Iu Z tw hx hm (kN ⟨hq0,hq2,w1,_,rfl,y1,y2⟩ ⟨hq1,hq3,w2,_,rfl,y3,y4⟩)
theorem RF{g:Gr}{i z0 z1:Int}{j0 j:Jt}(P:SlP E l a g 2 i z0 z1 j0 j)(ha:j.a=i)(hbd:Pd E a j.b) :
  ∀sv∈kV l a i j0 j,Xz (llq a.rs) r X sv.ts/\∀p∈sv.ps,Pq.ok sv.ts.length (oZ s (3*E+2*s+2*K+10) b K K' I J) p:=by
 have _:=hn;obtain⟨i1,i2,i3,i4,i5⟩:=cZ D.li P.h1;have hq2:Sm s (aX l i j.point):=by rw[<- ha];exact r6 D.hl D.li hcs i1 i3
 have hq0:=od D.hl D.li hcs P.h0 P.p0.or;obtain⟨y1,y2⟩:=sP D.hl D.li hcs D.al D.hc tw Z.hK P.h0 P.p0;obtain⟨y3,y4⟩:=tL D.hl D.li hcs D.al D.hc tw Z.hK i2 i4 hbd;obtain⟨y5,y6⟩:=tL D.hl D.li hcs D.al D.hc tw Z.hK i2 (i5 P.hk) hbd;have z1:Bz b (qE (bY (aX l i j.point) (aj l j0 i)):Et (llq a.rs)):=Bz.q tw.five ((xw hq2 hq0).mono hb);unfold kV
 by_cases h1:gk [cf (aX l i j.point) (aj l j0 i)]=true
 ·rw[if_pos h1];intro sv h;cases h
 ·rw[if_neg h1];have w1:=uz (Bool.eq_false_iff.2 h1)
  by_cases h2:fR (bn l a j.b j.on) (bn l a j.b j.to)≠0
  ·rw[if_pos h2];intro sv h;cases h
  ·rw[if_neg h2];obtain⟨hx,hm⟩:=QD Z tw y3 y4 y5 y6 y1 y2 z1 (Decidable.not_not.1 h2);exact Iu Z tw hx hm (ip ⟨hq0,hq2,w1,_,rfl,y1,y2⟩)
theorem Q4{g:Gr}{i z0 z1:Int}{j0 j:Jt}(P:SlP E l a g 3 i z0 z1 j0 j)(hj:j.b=i)(hbd:Pd E a j.a) :
  ∀sv∈kU l a i j0 j,Xz (llq a.rs) r X sv.ts/\∀p∈sv.ps,Pq.ok sv.ts.length (oZ s (3*E+2*s+2*K+10) b K K' I J) p:=by
 obtain⟨i1,i2,i3,i4,i5⟩:=cZ D.li P.h1;have hs0:=od D.hl D.li hcs P.h0 P.p0.or;have hs1:Sm s (aX l i j.on):=by rw[<- hj];exact r6 D.hl D.li hcs i2 i4
 have hs2:Sm s (aX l i j.to):=by rw[<- hj];exact r6 D.hl D.li hcs i2 (i5 P.hk)
 have hv:Sm (2*s+1) (dl l i j):=(hs2.sub hs1).mono oz;have qn:Cb b [jS l i j]:=(Cb.one (hv.dot hv)).mono oz;have qh:Cb b [cR l i j0 j]:=(Cb.one (hv.cross (hs1.sub hs0))).mono oz;obtain⟨o1,o2⟩:=sP D.hl D.li hcs D.al D.hc tw Z.hK P.h0 P.p0;obtain⟨p1,p2⟩:=tL D.hl D.li hcs D.al D.hc tw Z.hK i1 i3 hbd;have w1:Bz (2*(3*E+2*s+2*K+10)+1) (cq l a i j0 j).1:=Bz.mono (p1.sub o1) oz;have w2:Bz (2*(3*E+2*s+2*K+10)+1) (cq l a i j0 j).2:=Bz.mono (p2.sub o2) oz;have hd:Bz (8*(3*E+2*s+2*K+10)+2*K+8) (cI l a i j0 j):=Bz.mono (z7 Z tw (p:=aK l a j0 i) (q:=bn l a j.a j.point) o1 o2 p1 p2) oz;have hX:Bz X (bi l a i j0 j):=Bz.mono ((hd.qm qn).sub ((Bz.q tw.five qh).qm qh)) (by have:=Z.hX;omega);have h0:=BE D.li P.h1 P.hk hj;unfold kU
 by_cases h1:ak (cI l a i j0 j)=0/\ak (qE (cR l i j0 j):Et (llq a.rs))=0
 ·rw[if_pos h1];intro sv h;cases h
 ·rw[if_neg h1]
  by_cases h2:ak (bi l a i j0 j)<0
  ·rw[if_pos h2];intro sv h;cases h
  ·rw[if_neg h2];have hd0:ak (cI l a i j0 j)≠0:=vA tw h2 h1
   have key:∀us,Xz (llq a.rs) r X us->Bz J (iE (dE us (sX (cI l a i j0 j))))->∀q,Bz 1 (dE us q)->Pq.ok us.length (oZ s (3*E+2*s+2*K+10) b K K' I J) (qz us (d8 l a i j0 j) q):=by
    intro us hx hi q hq;have h5:=hx.tw.five
    have hh:Bz b (dE us (sh 0 (cR l i j0 j:Rat))):=by
     have e:dE us (sh 0 (cR l i j0 j:Rat))=qE (cR l i j0 j):=gT _ _;rw[e];exact Bz.q h5 qh
    exact QS Z tw hx (R:=d8 l a i j0 j) hv hs0 h0 hq (w1.upX hx.up h5) (w2.upX hx.up h5) hh hi (o1.upX hx.up h5) (o2.upX hx.up h5)
   by_cases h3:0<ak (bi l a i j0 j)
   ·rw [if_pos h3];have hx:=vJ tw hn Z.hL hX oz;have hi:=Bx Z tw hX (by omega:0 <= ak (bi l a i j0 j)) hd hd0;have rt:=x6 Z tw (x:=bi l a i j0 j);have k:=key _ hx hi;intro sv h;unfold kc at h;obtain ⟨n,hn2,rfl⟩:=List.mem_map.1 h;refine ⟨hx,fun p hp=>?_⟩;unfold jC at hp;rw [List.mem_singleton.1 hp]
    match n,List.mem_range.1 hn2 with
    |0,_=>exact k _ rt
    |1,_ =>
     refine k _ ?_;show Bz 1 (dE _ (sX (-bC (bi l a i j0 j))));have e:dE (aL (llq a.rs) (sX (bi l a i j0 j))) (sX (-bC (bi l a i j0 j)))=-bC (bi l a i j0 j):=a7 _ _;rw[e];exact rt.neg
   ·rw[if_neg h3];have hx:=yW (X:=X) tw Z.hL;have e:dE (llq a.rs) (sX (cI l a i j0 j))=cI l a i j0 j:=a7 _ _
    have hi:Bz J (iE (dE (llq a.rs) (sX (cI l a i j0 j)))):=by
     rw[e];exact(zx Z tw hd hd0).mono Z.ij
    have k:=key _ hx hi;intro sv h;unfold kc at h;obtain⟨n,hn2,rfl⟩:=List.mem_map.1 h;refine⟨hx,fun p hp=>?_⟩;unfold jC at hp;rw[List.mem_singleton.1 hp]
    match n,List.mem_range.1 hn2 with
    |0,_=>exact k _ (re ⟨tw.five,.inl rfl,⟨1,0,⟨by decide,fun q h=>by cases h⟩,by decide,by decide⟩⟩)
end
theorem Ho{k:List Bool}{i:Nat}{b:Int}(h:kn (k.set i true) b=true):kn k b=true\/i=b.toNat:=by
 unfold kn at h ⊢
 by_cases e:i=b.toNat
 ·exact .inr e
 ·rw[getD_eq_getElem?_getD,List.getElem?_set_ne e,<- getD_eq_getElem?_getD]at h;exact .inl h
theorem Aj:∀(bs:List Int){k:List Bool}{b:Int},kn (bt k bs) b=true->kn k b=true\/∃x∈bs,x.toNat=b.toNat
 |[],k,b,h=>.inl h
 |x::bs,k,b,h=>by
  have h:kn (bt (k.set x.toNat true) bs) b=true:=h;rcases Aj bs h with h |⟨y,hy,e⟩
  ·rcases Ho h with h |h
   ·exact .inl h
   ·exact .inr ⟨x,mem_cons_self,h⟩
  ·exact .inr ⟨y,mem_cons_of_mem _ hy,e⟩
def tU(l:Li)(kw:List Bool)(out:List Gr):Prop:=∀d∈l.dv,kn kw d.body=true->∃g∈out,g.kind=0/\g.bo=[d.body]
theorem LU{l:Li}{d:Dr}(hd:d∈l.dv){b:Int}(h:d.body=b):lW l b=true:=by
 unfold lW;rw[List.any_eq_true];exact⟨d,hd,by simp[h]⟩
theorem BX{l:Li}{kw:List Bool}{g:Gr}(h:pairG l kw=some g):∀x∈g.bo,freeB l kw x=true:=by
 unfold pairG at h;rw[map_eq_some_iff]at h;obtain⟨i,hi,h⟩:=h;obtain⟨h1,h2⟩:=fa hi;split at h
 ·rename_i k hk;subst h;unfold prAt at hk;rw [map_eq_some_iff] at hk;obtain ⟨k',hk',rfl⟩:=hk;obtain ⟨h3,h4⟩:=fa hk';rw [show i + 1 + k' = k' + (i + 1) by omega] at h4;unfold prHit at h4;simp only [Bool.not_eq_false',and_eq_true,decide_eq_true_eq] at h4;obtain ⟨⟨f1,f2⟩,_⟩:=h4;intro x hx;simp only [prG,mem_cons,not_mem_nil,or_false] at hx;rcases hx with rfl | rfl
  ·exact f1
  ·exact f2
 ·rename_i hk;rw[hk]at h2;cases h2
theorem Jg{l:Li}{kw:List Bool}{g:Gr}(h:singleG l kw=some g):∀x∈g.bo,freeB l kw x=true:=by
 unfold singleG at h;rw[map_eq_some_iff]at h;obtain⟨i,hi,rfl⟩:=h;obtain⟨h1,h2⟩:=fa hi;unfold sgHit at h2;simp only[Bool.not_eq_false',and_eq_true,decide_eq_true_eq]at h2;intro x hx;simp only[sgG,mem_cons,not_mem_nil,or_false]at hx;subst hx;exact h2.1
theorem Np{l:Li}(hl:ax l=0){kw:List Bool}{out:List Gr}{g:Gr}(h:tU l kw out)(hg:nextG l kw=some g):tU l (bt kw g.bo) (out++[g]):=by
 intro d hd hk;have ho:=wK hl hg;rcases Aj g.bo hk with h1 |⟨x,hx,e⟩
 ·obtain⟨g',h2,h3⟩:=h d hd h1;exact⟨g',List.mem_append_left _ h2,h3⟩
 ·obtain ⟨i, hi⟩:=getElem?_of_mem hd;have hb:=di (lI hl hi);have hx0:=(ho.b x hx).1;have ex:d.body = x:=by omega
  unfold nextG at hg;cases h1:driverG l kw with
  |some g' =>
   rw[h1]at hg;cases hg
   refine⟨g,List.mem_append_right _ (List.mem_singleton.2 rfl),?_⟩;unfold driverG at h1;rw[map_eq_some_iff]at h1;obtain⟨i,_,rfl⟩:=h1;refine⟨rfl,?_⟩;rw[List.mem_singleton.1 hx]at ex;rw[ex]
  |none =>
   rw[h1]at hg
   have hf:freeB l kw x=true:=by
    cases h2:pairG l kw with
    |some g'=>rw[h2]at hg;cases hg;exact BX h2 x hx
    |none=>rw[h2]at hg;exact Jg hg x hx
   unfold freeB at hf;rw[LU hd ex]at hf;simp at hf
theorem Fo{l:Li}(hl:ax l=0):∀(n:Nat)(kw:List Bool)(out:List Gr),tU l kw out->tU l (findFrom l n kw out).1 (findFrom l n kw out).2
 |0,kw,out,h=>h
 |n+1,kw,out,h=>by
  unfold findFrom;cases hg:nextG l kw with
  |none=>exact h
  |some g=>exact Fo hl n _ _ (Np hl h hg)
theorem xm{l:Li}(hl:ax l=0){i:Nat}{d:Dr}(hd:l.dv[i]?=some d):d.body≠0/\∀j d',j<i->l.dv[j]?=some d'->d'.body≠d.body:=by
 have h1:=(cA hl).2.2.1;unfold fM at h1;split at h1
 ·cases h1
 ·have h2:=p5 h1 i (List.getElem?_eq_some_iff.1 hd).1;unfold dP at h2;rw[aB hd]at h2;split at h2
  ·cases h2
  ·split at h2
   ·cases h2
   ·split at h2
    ·cases h2
    ·split at h2
     ·cases h2
     ·rename_i h4;split at h2
      ·cases h2
      ·rename_i h5;refine⟨h4,fun j d' hj hd' e=>h5 ?_⟩;rw[List.any_eq_true];exact⟨d',mem_of_getElem? (by rw[getElem?_take,if_pos hj];exact hd'),by simpa using e⟩
theorem H6{α:Type}{p:α->Bool}:∀{l:List α}{x y:α},x∈l->y∈l->x≠y->p x=true->p y=true->2<=l.countP p
 |z::l,x,y,hx,hy,hn,px,py=>by
  have pos:∀w,w∈l->p w=true->0<l.countP p:=fun w hw pw=>List.countP_pos_iff.2 ⟨w,hw,pw⟩
  rcases List.mem_cons.1 hx with e |hx
  ·rcases List.mem_cons.1 hy with e2 |hy
   ·exact absurd (e.trans e2.symm) hn
   ·have h9:=pos y hy py;rw[List.countP_cons_of_pos (e▸px)];omega
  ·rcases List.mem_cons.1 hy with e |hy
   ·have h9:=pos x hx px;rw[List.countP_cons_of_pos (e▸py)];omega
   ·have:=H6 hx hy hn px py;rw[List.countP_cons];omega
theorem xt{l:Li}(hl:ax l=0):l.dv.length<=2:=by
 have h1:=(cA hl).2.2.1;unfold fM at h1;split at h1
 ·cases h1
 ·omega
theorem CF{l:Li}(hl:ax l=0)(hs:splitE l=0):∀d∈l.dv,∃g∈splitG l,g.kind=0/\g.bo=[d.body]:=by
 have h0:tU l (cB l.bo.length 0) []:=by
  intro d hd hk;obtain⟨i,hi⟩:=getElem?_of_mem hd;have hb:=di (lI hl hi);rw[ov oz oz oz]at hk;exact absurd (of_decide_eq_true hk) (xm hl hi).1
 have h1:=Fo hl l.bo.length _ _ h0;rw[DM]at h1;intro d hd;obtain⟨i,hi⟩:=getElem?_of_mem hd;have hb:=di (lI hl hi)
 have hz:(en (bQ l)).length=0:=by
  unfold splitE at hs;split at hs
  ·omega
  ·cases hs
 rw[xh]at hz
 have hlen:(bQ l).length=l.bo.length:=by
  have:∀(gs:List Gr)(k:List Bool),(gs.foldl (fun k g=>bt k g.bo) k).length=k.length:=by
   intro gs
   induction gs with
   |nil=>intro k;rfl
   |cons g gs ih=>intro k;rw[foldl_cons,ih,jz]
  unfold bQ;rw[this,gX]
 have hk:kn (bQ l) d.body=true:=by
  unfold kn;rw[getD_eq_getElem?_getD,getElem?_eq_getElem (by omega:d.body.toNat<(bQ l).length)];show(bQ l)[d.body.toNat]=true;cases hv:(bQ l)[d.body.toNat]'oz with
  |true=>rfl
  |false =>
   exfalso;have hm:false∈bQ l:=hv▸List.getElem_mem _;rw[<- List.contains_iff_mem]at hm;rw[hm]at hz;cases hz
 obtain⟨g,hg,h2⟩:=h1 d hd hk;refine⟨g,?_,h2⟩;unfold splitG;rw[if_pos hs];exact hg
theorem Uy{l:Li}(hl:ax l=0)(hs:splitE l=0):l.dv.length<=(splitG l).countP (fun g=>decide (g.kind=0)):=by
 have h2:=xt hl;have hg:=CF hl hs
 match hd:l.dv with
 |[]=>simp
 |[d] =>
  obtain⟨g,h3,h4,_⟩:=hg d (by rw[hd];simp);exact List.countP_pos_iff.2 ⟨g,h3,by simpa using h4⟩
 |[d,d'] =>
  obtain⟨g,h3,h4,h5⟩:=hg d (by rw[hd];simp);obtain⟨g',h3',h4',h5'⟩:=hg d' (by rw[hd];simp);refine H6 h3 h3' ?_ (by simpa using h4) (by simpa using h4');intro e;rw[e,h5']at h5;exact(xm hl (i:=1) (d:=d') (by rw[hd];rfl)).2 0 d oz (by rw[hd];rfl) (by simpa using h5.symm)
 |_::_::_::_=>rw[hd]at h2;simp only[length_cons]at h2;omega
structure Aq where
  ts:LL
  bs:List Pq
  ms:List Int
instance:Inhabited Pq:=⟨⟨[],[],[],[]⟩⟩
instance:Inhabited Aq:=⟨⟨[],[],[]⟩⟩
def Pq.pl(p:Pq):Pl:=⟨p.c.map rt,p.s.map rt,p.x.map rt,p.y.map rt⟩
def Aq.as(a:Aq):As:=⟨a.ts.map (List.map rt),a.bs.map Pq.pl,a.ms⟩
theorem Pq.pl_av(p:Pq):p.pl.av=p.av:=by unfold Pl.av Pq.av Pq.pl;rw[dV,dV,dV,dV]
abbrev Aq.cs(a:Aq):List AV:=[.lst 1 (a.ts.map nA),.lst 4 (a.bs.map Pq.av),.lst 1 (a.ms.map i64)]
abbrev Aq.av(a:Aq):AV:=.agg a.cs
theorem Aq.as_av(a:Aq):a.as.av=a.av:=by
 unfold As.av Aq.as Aq.av Aq.cs;rw[map_map,map_map];congr 3
 ·exact List.map_congr_left (fun x _=>dV x)
 ·congr 1;exact List.map_congr_left (fun x _=>Pq.pl_av x)
theorem Aq.llq(a:Aq):Lw.llq a.as.rs=a.ts:=oT _
def bO(bs:List Pq)(is:List Int)(ps:List Pq):List Pq:=(is.zip ps).foldl (fun k x=>k.set x.1.toNat x.2) bs
def Aq.nxt(a:Aq)(g:Gr)(s:Sv):Aq:=⟨s.ts,bO a.bs g.bo s.ps,a.ms++[s.mode]⟩
def bm:Pq:=⟨[],[],[],[]⟩
def iu:Pq:=⟨[1],[],[],[]⟩
def eD(l:Li):Aq:=⟨[],(List.replicate l.bo.length bm).set 0 iu,[]⟩
def dM:Tn:=⟨⟨false,[],[]⟩,false⟩
def co(g:Gr)(xs:List Tn):Tn:=if g.kind=0 then xs.getD g.driver.toNat dM else dM
theorem G4:∀(zs:List (Int×Pq))(bs:List Pq),(zs.foldl (fun k x=>k.set x.1.toNat x.2) bs).length=bs.length
 |[],bs=>rfl
 |z::zs,bs=>by rw[foldl_cons,G4 zs,length_set]
theorem GU:∀(zs:List (Int×Pq))(bs:List Pq)(p:Pq),p∈zs.foldl (fun k x=>k.set x.1.toNat x.2) bs->p∈bs\/∃z∈zs,z.2=p
 |[],bs,p,h=>.inl h
 |z::zs,bs,p,h=>by
  rw[foldl_cons]at h;rcases GU zs _ p h with h |⟨z',hz,e⟩
  ·rcases List.mem_or_eq_of_mem_set h with h |h
   ·exact .inl h
   ·exact .inr ⟨z,mem_cons_self,h.symm⟩
  ·exact .inr ⟨z',mem_cons_of_mem _ hz,e⟩
theorem wh(bs:List Pq)(is:List Int)(ps:List Pq):(bO bs is ps).length=bs.length:=G4 _ _
theorem Gu{bs:List Pq}{is:List Int}{ps:List Pq}{p:Pq}(h:p∈bO bs is ps):p∈bs\/p∈ps:=by
 rcases GU _ _ _ h with h |⟨z,hz,e⟩
 ·exact .inl h
 ·exact .inr (e▸(List.of_mem_zip hz).2)
theorem MY{bs:List Pq}{is:List Int}{ps:List Pq}{i:Nat}{b:Int}{p:Pq}(hb:is[i]?=some b)(hp:ps[i]?=some p) :
  bO bs (is.take (i+1)) (ps.take (i+1))=(bO bs (is.take i) (ps.take i)).set b.toNat p:=by
 have h1:is.take (i+1)=is.take i++[b]:=by rw[List.take_add_one,hb];rfl
 have h2:ps.take (i+1)=ps.take i++[p]:=by rw[List.take_add_one,hp];rfl
 have hl1:=(List.getElem?_eq_some_iff.1 hb).1;have hl2:=(List.getElem?_eq_some_iff.1 hp).1;unfold bO;rw[h1,h2,List.zip_append (by rw[length_take,length_take];omega),List.foldl_append];rfl
def lG(s j r E:Nat):Nat:=3*E+2*s+2*eB r j+10
def kl(s j r E:Nat):Nat:=24*lG s j r E+8*eB r j+5*(8*s+5)+23
def IV(s j r E:Nat):Nat:=iB r j (8*lG s j r E+2*eB r j+8)
def v5(s j r E:Nat):Nat:=iB (r+kl s j r E) j (8*lG s j r E+2*eB r j+8)
def tA(s j r E:Nat):Nat:=oZ s (lG s j r E) (8*s+5) (eB r j) (eB (r+kl s j r E) (j+1)) (IV s j r E) (v5 s j r E)
def mY(s g j r E:Nat):Nat:=lG s j r E+2*g+2*s+4
def eG(s g:Nat):Nat->Nat->Nat->Nat->Nat->Bool
  |0,_,j,r,E=>decide (E<=3200000000/\r<=400000000/\j<=2)
  |n+1,y,j,r,E=>decide (E<=3200000000/\r<=400000000/\j<=2)&&(eG s g n y j r (mY s g j r E) &&
      (decide (y=0)||(decide (j<=1/\E<=3900000/\r<=64990/\r+kl s j r E<=5000000000/\v5 s j r E<=50000000000)&&eG s g n (y-1) (j+1) (r+kl s j r E) (tA s j r E))))
theorem D9:eG 32 134 3 1 0 0 2=true:=by decide +kernel
theorem LO:eG 9 42 4 2 0 0 2=true:=by decide +kernel
theorem vj{s g n y j r E:Nat}(h:eG s g n y j r E=true):E<=3200000000/\r<=400000000/\j<=2:=by
 cases n with
 |zero=>exact of_decide_eq_true h
 |succ n =>
  unfold eG at h;simp only[and_eq_true,decide_eq_true_eq]at h;exact⟨h.1.1,h.1.2.1,h.1.2.2⟩
theorem Ve{s g n y j r E:Nat}(h:eG s g n y j r E=true):E<=50000000000/\r<=400000000/\j<=2:=by
 have:=vj h;omega
theorem tj{s g n y j r E:Nat}(h:eG s g (n+1) y j r E=true):(E<=20000000000/\r<=400000000/\j<=2)/\eG s g n y j r (mY s g j r E)=true:=by
 unfold eG at h;simp only[and_eq_true,decide_eq_true_eq]at h;exact⟨⟨by omega,h.1.2⟩,h.2.1⟩
theorem rq{s g n y j r E:Nat}(h:eG s g (n+1) (y+1) j r E=true):(j<=1/\E<=3900000/\r<=64990/\r+kl s j r E<=5000000000/\v5 s j r E<=50000000000)/\eG s g n y (j+1) (r+kl s j r E) (tA s j r E)=true:=by
 unfold eG at h;simp only[and_eq_true,or_eq_true,decide_eq_true_eq,Nat.add_sub_cancel]at h;rcases h.2.2 with h1 |h1
 ·omega
 ·exact h1
structure QInv(l:Li)(j r E:Nat)(a:Aq):Prop where
  tw:Tw a.ts r
  lv:a.ts.length<=j
  bs:∀p∈a.bs,Pq.ok a.ts.length E p
  ln:a.bs.length=l.bo.length
theorem Pq.ok.up{n n' e e':Nat}{p:Pq}(h:Pq.ok n e p)(hn:n<=n')(h5:n'<=5)(he:e<=e'):Pq.ok n' e' p :=
 ⟨⟨h5,h.c.nl.mono hn,h.c.cb.mono he⟩,⟨h5,h.s.nl.mono hn,h.s.cb.mono he⟩,⟨h5,h.x.nl.mono hn,h.x.cb.mono he⟩,⟨h5,h.y.nl.mono hn,h.y.cb.mono he⟩⟩
theorem Pq.ok.lv{n m e:Nat}{p:Pq}(h:Pq.ok n e p)(hn:n=m):Pq.ok m e p:=hn▸h
theorem uJ{r r':Nat}(h:r<=r'):∀j,eB r j<=eB r' j
 |0=>le_refl _
 |j+1=>by have:=uJ h j;simp only[eB];omega
theorem Gi{r r':Nat}(h:r<=r'):∀j e,iB r j e<=iB r' j e
 |0,e=>le_refl _
 |j+1,e=>by
  have h1:=uJ h j;have h2:=uJ h (j+1);have h3:=Gi h j (4*e+3*eB r j+r+1);have h4:=xi r' j (e:=4*e+3*eB r j+r+1) (f:=4*e+3*eB r' j+r'+1) oz;simp only[iB];omega
theorem xc:Pq.ok 0 2 bm:=by
 have h:Nm 0 2 []:=⟨by omega,.inl rfl,⟨1,0,⟨by decide,fun q h=>by cases h⟩,by decide,by decide⟩⟩
 exact⟨h,h,h,h⟩
theorem Wm:Pq.ok 0 2 iu:=by
 have h:Nm 0 2 [1]:=⟨by omega,.inr ⟨0,le_refl _,rfl⟩,Cb.mono (Cb.int (z:=1) (e:=1) (by decide)) oz⟩
 exact⟨h,xc.c,xc.c,xc.c⟩
theorem Ce:Tw [] 0:=⟨by decide,(fun j h=>by cases h),(fun j h=>by cases h),⟨1,1,by decide,(fun d h=>by cases h),by decide,by decide⟩,by omega⟩
theorem GV(l:Li):QInv l 0 0 2 (eD l):=by
 refine⟨Ce,le_refl _,fun p hp=>?_,by simp[eD]⟩;rcases List.mem_or_eq_of_mem_set hp with h |h
 ·rw[(List.mem_replicate.1 h).2];exact xc
 ·rw[h];exact Wm
theorem Pq.ok.nr{n e:Nat}{p:Pq}(h:Pq.ok n e p)(he:e<=lm n):∀x∈p.pl.l,NR x e:=by
 intro x hx;simp only[Pl.l,Pq.pl,mem_cons,not_mem_nil,or_false]at hx;rcases hx with rfl |rfl |rfl |rfl
 ·exact h.c.rt he
 ·exact h.s.rt he
 ·exact h.x.rt he
 ·exact h.y.rt he
theorem Pq.ok.num{n e:Nat}{p:Pq}(h:Pq.ok n e p):∀x∈p.pl.l,bW n x=0:=by
 intro x hx;simp only[Pl.l,Pq.pl,mem_cons,not_mem_nil,or_false]at hx;rcases hx with rfl |rfl |rfl |rfl
 ·exact nV h.c.nl
 ·exact nV h.s.nl
 ·exact nV h.x.nl
 ·exact nV h.y.nl
section
variable{l:Li}{j r E:Nat}{a:Aq}(Q:QInv l j r E a)
include Q
theorem QInv.chk:bA a.as.rs=0:=Q.tw.chk
theorem QInv.mem{p:Pl}(h:p∈a.as.bs):∃q∈a.bs,q.pl=p:=by have _:=Q;exact List.mem_map.1 h
theorem QInv.nr(hE:E<=50000000000){p:Pl}(h:p∈a.as.bs):∀x∈p.l,NR x E:=by
 obtain⟨q,hq,rfl⟩:=Q.mem h;exact(Q.bs q hq).nr (le_trans hE (jN _))
theorem QInv.ab(hl:ax l=0)(hE:E<=50000000000)(hr:r<=400000000):AB a.as:=by
 refine⟨Q.tw.tr.mono hr oz,fun p hp x hx=>(Q.nr hE hp x hx).mono hE,?_,?_⟩
 ·show(a.ts.map _).length<=8;rw[length_map];have:=Q.tw.three;omega
 ·show(a.bs.map _).length<=30;rw[length_map,Q.ln];have:=(cA hl).2.2.2.1;omega
theorem QInv.sma(hE:E<=50000000000){F:Nat}(hF:E<=F)(k:Int)(own:Bool):uN F l k a.as own :=
 fun b _ _ p hp x hx=>(Q.nr hE (mem_of_getElem? hp) x hx).mono hF
theorem QInv.nd(hl:ax l=0){g:Gr}(hg:GrOk l g){own:Bool}:∀b∈cP l g own,fY a.as b=0:=by
 intro b hb;unfold fY;split
 ·rfl
 ·have h1:=BC hl hg b hb;obtain ⟨p,hp⟩:=aq (l:=a.bs) (i:=b.toNat) (by rw [Q.ln]; omega);have e:a.as.bs[b.toNat]? = some p.pl:=by show (a.bs.map Pq.pl)[b.toNat]? = _; rw [getElem?_map,hp]; rfl
  rw[aB e];unfold bg;rw[if_neg (by rw[Q.chk];simp)];have e2:a.as.rs.length=a.ts.length:=length_map _;rw[e2];exact oh (fun x hx=>(Q.bs p (mem_of_getElem? hp)).num x hx)
theorem QInv.dy0(hl:ax l=0)(hs:splitE l=0){k:Nat}{g:Gr}(hg:(splitG l)[k]?=some g)(own:Bool):ft l k a.as own=0:=by
 have hk:=(List.getElem?_eq_some_iff.1 hg).1;obtain⟨_,ho⟩:=pM hl (mem_of_getElem? hg);have hgA:iN l (k:Nat)=g:=aB hg;rw[qo hl,FV hs oz (by show(a.bs.map _).length=_;rw[length_map,Q.ln]) Q.chk,hgA];exact oh (fun b hb=>Q.nd hl ho b (BH.1 hb))
end
structure WkC(l:Li)(xs:List Tn)(s g:Nat):Prop where
  hl:l.ok
  li:ax l=0
  sp:splitE l=0
  cs:Cs s l
  ln:xs.length=l.dv.length
  ok:∀x∈xs,x.t.ok/\x.err=0/\Qb 1000 x.t.q/\Cb g [dC x.half x.t.q]/\Cb g [dF x.half x.t.q]
theorem GP{l:Li}{g:Gr}(h:DyK l g)(hk:g.kind=0):0<=g.driver/\g.driver<l.dv.length:=by
 cases h with
 | @drv b z d _ _ t d0 hd hb=>have:=(List.getElem?_eq_some_iff.1 hd).1;exact⟨d0,by show d<_;omega⟩
 |rrr=>exact absurd hk (by simp)
 |pr=>exact absurd hk (by simp)
 |rp=>exact absurd hk (by simp)
theorem xB:dM.t.ok:=⟨(fun x h=>by cases h),(fun x h=>by cases h),zero_le _,zero_le _⟩
theorem GQ:Qb 1000 dM.t.q:=by
 have e:dM.t.q=0:=by decide +kernel
 rw[e];exact Qb.zero.mono oz
section
variable{l:Li}{xs:List Tn}{s g:Nat}(W:WkC l xs s g){k:Nat}{gr:Gr}(hg:(splitG l)[k]?=some gr)
include W hg
theorem WkC.grp:DyK l gr/\GrOk l gr:=pM W.li (mem_of_getElem? hg)
theorem WkC.tn:(co gr xs).t.ok/\Qb 1000 (co gr xs).t.q/\(gr.kind=0->∃x∈xs,co gr xs=x):=by
 unfold co
 by_cases hk:gr.kind=0
 ·rw[if_pos hk];have h:=GP (W.grp hg).1 hk;obtain⟨x,hx⟩:=aq (l:=xs) (i:=gr.driver.toNat) (by rw[W.ln];omega);rw[aB hx];have hm:=mem_of_getElem? hx;exact⟨(W.ok x hm).1,(W.ok x hm).2.2.1,fun _=>⟨x,hm,rfl⟩⟩
 ·rw[if_neg hk];exact⟨xB,GQ,fun h=>absurd h hk⟩
variable{j r E:Nat}{a:Aq}(Q:QInv l j r E a)
include Q
theorem QInv.dyOk{F:Nat}(hE:E<=50000000000)(hF:E<=F):DyOk F l k a.as false k gr:=by
 obtain⟨i,g',h⟩:=Aw (Q.sma hE hF k false) (Q.dy0 W.li W.sp hg false);have e:i=k:=by have:=h.hk;omega
 subst e;have:=h.hg;rw[hg]at this;cases this;exact h
theorem QInv.dyS(hr:r<=64990)(hj:j<=1):DyS a.as:=by have _:=W;have _:=hg;exact⟨Q.tw.tr.mono hr oz,fun _=>by rw[a.llq];exact le_trans Q.lv hj⟩
theorem QInv.dyW(hE:E<=50000000000)(hr:r<=400000000):DyW l a.as:=by have _:=hg;exact⟨W.hl,W.li,Q.ab W.li hE hr,Q.chk⟩
theorem QInv.twl:Tw (Lw.llq a.as.rs) r:=by have _:=W;have _:=hg;rw[a.llq];exact Q.tw
theorem QInv.drv{n y:Nat}(ok:eG s g (n+1) y j r E=true)(hk:gr.kind=0):∀sv∈fj l a.as gr (co gr xs),QInv l j r (mY s g j r E) (a.nxt gr sv):=by
 obtain⟨⟨hE,hr,hj⟩,_⟩:=tj ok;have D:=QInv.dyW W hg Q oz hr;have O:=QInv.dyOk W hg Q (F:=E) oz (le_refl _);obtain⟨i,z0,d,j0,e,hj0,p0⟩:=yd O hk;obtain⟨_,_,hx⟩:=W.tn hg;obtain⟨x,hx,ex⟩:=hx hk;obtain⟨_,he,_,hc,hs⟩:=W.ok x hx;have hlen:(Lw.llq a.as.rs).length=a.ts.length:=by rw[a.llq]
 have tw:=QInv.twl W hg Q;have hq0:=od W.hl W.li W.cs hj0 p0.or;have hK:eB r (Lw.llq a.as.rs).length<=eB r j:=gV r (by rw[hlen];exact Q.lv);obtain⟨o1,o2⟩:=sP W.hl W.li W.cs D.al D.hc tw hK hj0 p0;rw[ex];unfold fj;rw[if_pos hk,e];show ∀sv∈kW l a.as i (l.jo.getD z0.toNat default) x,_;rw[aB hj0];unfold kW;rw[if_neg oz];have hp:=Qt (ts:=Lw.llq a.as.rs) (p:=aj l j0 i) (o:=aK l a.as j0 i) hc hs hq0 tw.five o1 o2
 have hp2:Pq.ok a.ts.length (mY s g j r E) (kL l a.as i j0 x):=by
  have:=zP (a:=0) (b:=0) hp (e:=mY s g j r E) (by unfold mY lG;omega) (by unfold mY lG;omega);exact Pq.ok.lv this hlen
 refine ip ⟨?_,?_,?_,?_⟩
 ·exact tw
 ·show(Lw.llq a.as.rs).length<=j;rw[hlen];exact Q.lv
 ·intro p hp3;show Pq.ok (Lw.llq a.as.rs).length _ p;rw[hlen];rcases Gu hp3 with h |h
  ·exact(Q.bs p h).up (le_refl _) Q.tw.five (by unfold mY lG;omega)
  ·rw[List.mem_singleton.1 h];exact hp2
 ·exact(wh _ _ _).trans Q.ln
theorem QInv.dy{n y:Nat}(ok:eG s g (n+1) (y+1) j r E=true)(hk:gr.kind≠0):∀sv∈fj l a.as gr (co gr xs),QInv l (j+1) (r+kl s j r E) (tA s j r E) (a.nxt gr sv):=by
 obtain⟨⟨hj,hE,hr,hX,hJ⟩,_⟩:=rq ok;have D:DyR l a.as:=⟨QInv.dyW W hg Q oz oz,QInv.dyS W hg Q hr hj⟩
 have O:=QInv.dyOk W hg Q (F:=E) oz (le_refl _);have hlen:(Lw.llq a.as.rs).length=a.ts.length:=by rw[a.llq]
 have hlv:(Lw.llq a.as.rs).length<=j:=by rw[hlen];exact Q.lv
 have tw:=QInv.twl W hg Q
 have Z:Szs (Lw.llq a.as.rs).length r (3*E+2*s+2*eB r j+10) (8*s+5) (kl s j r E) (eB r j) (eB (r+kl s j r E) (j+1)) (IV s j r E) (v5 s j r E):=by
  refine⟨by omega,gV r hlv,?_,hX,gV _ oz,?_,?_,hJ,?_,?_⟩
  ·unfold kl lG;omega
  ·exact yu r _ hlv
  ·exact yu _ _ hlv
  ·exact le_trans (gV r oz) (uJ oz _)
  ·exact Gi oz _ _
 have hn:(Lw.llq a.as.rs).length<=1:=by omega
 have key:∀sv∈fj l a.as gr (co gr xs),Xz (Lw.llq a.as.rs) r (kl s j r E) sv.ts/\∀p∈sv.ps,Pq.ok sv.ts.length (tA s j r E) p:=by
  unfold fj;rw[if_neg hk]
  by_cases hk1:gr.kind=1
  ·obtain⟨i,k2,z0,z1,z2,j0,j1,j2,P⟩:=O.rrr hk1;obtain⟨e0,e1,e2,b0,b1,_⟩:=P.at;rw[if_pos hk1,e0,e1,e2,b0,b1];exact L9 D hn W.cs tw Z (le_refl _) P
  ·rw[if_neg hk1]
   by_cases hk2:gr.kind=2
   ·obtain⟨i,z0,z1,j0,j,P,ha,hb⟩:=O.pr hk2;obtain⟨e0,e1,b0,_⟩:=P.at;rw[if_pos hk2,e0,e1,b0];exact RF D hn W.cs tw Z (le_refl _) P ha hb
   ·obtain⟨i,z0,z1,j0,j,P,_,hj,hb⟩:=O.rp hk hk1 hk2;obtain⟨e0,e1,b0,hk3⟩:=P.at;rw[if_neg hk2,e0,e1,b0];exact Q4 D hn W.cs tw Z (le_refl _) P hj hb
 intro sv hsv;obtain⟨hx,hp⟩:=key sv hsv;have h5:=hx.tw.five;have hup:=hx.up;have hln:=hx.ln;rw[hlen]at hup hln;refine⟨hx.tw,?_,?_,?_⟩
 ·show sv.ts.length<=j+1;have:=Q.lv;omega
 ·intro p hp3;rcases Gu hp3 with h |h
  ·exact(Q.bs p h).up hup h5 (by unfold tA oZ wZ lG;omega)
  ·exact hp p h
 ·exact(wh _ _ _).trans Q.ln
end
def nG(l:Li)(a:As)(g:Gr)(x:Tn):Nat:=(iW l a g x).2
def ff(F:Int->Bool)(sg:Bool)(f:Sv->List Aq×Nat):List Sv->List Aq×Nat
  |[]=>([],0)
  |s::r=>if F s.mode=false then ff F sg f r else if(f s).2≠0 then f s else if sg=true then f s else((f s).1++(ff F sg f r).1,(ff F sg f r).2)
def f6(F:Nat->Int->Bool)(sg:Bool)(l:Li)(xs:List Tn)(gs:List Gr):Nat->Aq->List Aq×Nat
  |0,a=>([a],0)
  |n+1,a=>if nG l a.as (gs.getD a.ms.length default) (co (gs.getD a.ms.length default) xs)≠0 then([],nG l a.as (gs.getD a.ms.length default) (co (gs.getD a.ms.length default) xs))
    else ff (F a.ms.length) sg (fun s=>f6 F sg l xs gs n (a.nxt (gs.getD a.ms.length default) s)) (fj l a.as (gs.getD a.ms.length default) (co (gs.getD a.ms.length default) xs))
theorem S0{l:Li}{xs:List Tn}{s g:Nat}(W:WkC l xs s g){k:Nat}{gr:Gr}(hg:(splitG l)[k]?=some gr){j r E:Nat}{a:Aq}(Q:QInv l j r E a){n y:Nat}(ok:eG s g (n+1) y j r E=true)(hy:gr.kind≠0->0<y) :
  SolP (fj l a.as gr (co gr xs)) gr.kind a.ts.length gr.bo.length:=by
 obtain⟨⟨hE,hr,hj⟩,_⟩:=tj ok;have D:=QInv.dyW W hg Q oz hr;have h3:(Lw.llq a.as.rs).length<=2:=by rw[a.llq];have:=Q.lv;omega
 have hlen:(Lw.llq a.as.rs).length=a.ts.length:=by rw[a.llq]
 rw[<- hlen]
 by_cases hk:gr.kind=0
 ·exact I7 hE D h3 (QInv.dyOk W hg Q (F:=E) oz (le_refl _)) (fun h=>absurd hk h) (W.tn hg).2.1
 ·have hy:=hy hk;obtain ⟨y',rfl⟩:∃ y',y = y' + 1:=⟨y - 1,by omega⟩
  obtain⟨⟨hj,hE,hr,hX,hJ⟩,_⟩:=rq ok;exact I7 oz D h3 (QInv.dyOk W hg Q (F:=3900000) oz hE) (fun _=>⟨rfl,QInv.dyS W hg Q hr hj⟩) (W.tn hg).2.1
open Lean.Grind (CommRing)
theorem BQ{ts:LL}(hp:gQ ts){X:Et ts}(h:0<ak X):gQ (aL ts (sX X)):=by
 intro j hj;rw[dD]at hj;rw[yE oz];rcases lt_or_ge j ts.length with h9 |h9
 ·rw[wF h9];exact hp j h9
 ·have : j = ts.length := by omega
  subst this
  have e1:am (aL ts (sX X)) ts.length=X:=by
   show ae ts.length ((aL ts (sX X)).getD ts.length [])=_;rw[wB,o8];exact a7 _ _
  rw[e1];exact Int.le_of_lt h
def eF(T:LL)(p:Pq)(m:Rat×Rat):P2 T:=(dE T p.c*qE m.1-dE T p.s*qE m.2+dE T p.x,dE T p.s*qE m.1+dE T p.c*qE m.2+dE T p.y)
def CH(T:LL)(p:Pq):Prop:=ak (dE T p.c*dE T p.c+dE T p.s*dE T p.s-1)=0
def ba(l:Li)(T:LL)(bs:List Pq)(b pt:Int):P2 T:=eF T (bs.getD b.toNat bm) (aX l b pt)
def JH(l:Li)(T:LL)(bs:List Pq)(j:Jt):Prop :=
  if j.kind=0 then ak ((ba l T bs j.a j.point).1-(ba l T bs j.b j.on).1)=0/\ak ((ba l T bs j.a j.point).2-(ba l T bs j.b j.on).2)=0
  else ak (oi (a8 (ba l T bs j.b j.to) (ba l T bs j.b j.on)) (a8 (ba l T bs j.a j.point) (ba l T bs j.b j.on)))=0
theorem Cp{ts:LL}{q:Rat}(h:q≠0):(iE (qE q)*qE q:Et ts)=1:=by
 have e:(iE (qE q):Et ts)=qE (1/q):=wY (am ts) ts.length q;rw[e,<- lP,show 1/q*q=((1:Nat):Rat) by rw[show(((1:Nat):Rat))=1 from rfl];grind];rfl
section
variable{T:LL}{u p c:Rat×Rat}{w o:P2 T}
theorem uE:dE T (gL u w p o).c=du u w:=a7 _ _
theorem vL:dE T (gL u w p o).s=dq u w:=a7 _ _
theorem Q1:dE T (gL u w p o).x=pI u w p o:=a7 _ _
theorem Ly:dE T (gL u w p o).y=qR u w p o:=a7 _ _
theorem uq(m:Rat×Rat):eF T (gL u w p o) m=(o.1+(du u w*qE (m.1-p.1)-dq u w*qE (m.2-p.2)),o.2+(dq u w*qE (m.1-p.1)+du u w*qE (m.2-p.2))):=by
 unfold eF;rw[uE,vL,Q1,Ly,tx,tx];unfold pI qR;refine Prod.ext ?_ ?_
 ·dsimp only;grind
 ·dsimp only;grind
theorem si:eF T (gL u w p o) p=o:=by
 rw[uq,show p.1-p.1=0 by grind,show p.2-p.2=0 by grind,zE];refine Prod.ext ?_ ?_
 ·dsimp only;grind
 ·dsimp only;grind
theorem Jm(h:b7 u u≠0):(du u w*qE u.1-dq u w*qE u.2=w.1/\dq u w*qE u.1+du u w*qE u.2=w.2):=by
 have hn:(jO u:Et T)=qE u.1*qE u.1+qE u.2*qE u.2:=by
  show qE (u.1*u.1+u.2*u.2)=_;rw[qO,lP,lP]
 exact(Do hn (Cp h) rfl rfl).1
theorem yn(h:b7 (cf c p) (cf c p)≠0):eF T (gL (cf c p) w p o) c=(o.1+w.1,o.2+w.2):=by
 rw[uq];have g:=Jm (w:=w) h;have e1:(qE (c.1-p.1):Et T)=qE (cf c p).1:=rfl;have e2:(qE (c.2-p.2):Et T)=qE (cf c p).2:=rfl;rw[e1,e2,g.1,g.2]
theorem uZ(hp:gQ T)(h:b7 u u≠0)(hw:ak (w.1*w.1+w.2*w.2-qE (b7 u u))=0):CH T (gL u w p o):=by
 unfold CH;rw[uE,vL]
 have hn:(jO u:Et T)=qE u.1*qE u.1+qE u.2*qE u.2:=by
  show qE (u.1*u.1+u.2*u.2)=_;rw[qO,lP,lP]
 have hi:(iE (jO u)*jO u:Et T)=1:=Cp h;have e:=congrArg (an hp) hn;have ei:=congrArg (an hp) hi;have ew:an hp w.1*an hp w.1+an hp w.2*an hp w.2=an hp (jO u):=(kK hp (x:=w.1*w.1+w.2*w.2) (y:=jO u)).2 hw;have g:=(Do (R:=Zq hp) (n:=an hp (jO u)) (i:=an hp (iE (jO u))) (u1:=an hp (qE u.1)) (u2:=an hp (qE u.2)) (c:=an hp (du u w)) (s:=an hp (dq u w)) (w1:=an hp w.1) (w2:=an hp w.2) e ei rfl (by unfold dq;rw[cH,cU,cH,cH])).2 ew;refine(kK hp (x:=du u w*du u w+dq u w*dq u w) (y:=1)).1 ?_;exact g
end
def a9(a:As):List Pq:=a.bs.map fun b=>⟨lq b.c,lq b.s,lq b.x,lq b.y⟩
theorem rP(q:Aq):a9 q.as=q.bs:=by
 unfold a9 Aq.as;rw[map_map]
 conv=>rhs;rw[<- map_id q.bs]
 refine List.map_congr_left fun p _=>?_
 show(⟨lq (p.c.map rt),lq (p.s.map rt),lq (p.x.map rt),lq (p.y.map rt)⟩:Pq)=p;rw[dO,dO,dO,dO]
theorem lR(l:Li)(a:As)(b pt:Int):bn l a b pt=ba l (llq a.rs) (a9 a) b pt:=by
 have e:(a9 a).getD b.toNat bm=⟨lq (a.bs.getD b.toNat default).c,lq (a.bs.getD b.toNat default).s,lq (a.bs.getD b.toNat default).x,lq (a.bs.getD b.toNat default).y⟩:=by
  unfold a9;rw[getD_eq_getElem?_getD,getD_eq_getElem?_getD,getElem?_map];cases a.bs[b.toNat]? <;> rfl
 unfold ba;rw[e];rfl
def Nq(n:Nat)(p:Pq):Prop:=p.c.length<=2^n/\p.s.length<=2^n/\p.x.length<=2^n/\p.y.length<=2^n
section
variable{ts T:LL}(L:Lf ts T)
include L
theorem Lf.add(x y:Et ts):an L.pos (aS T (x+y))=an L.pos (aS T x)+an L.pos (aS T y):=L.hm.add x y
theorem Lf.mul(x y:Et ts):an L.pos (aS T (x*y))=an L.pos (aS T x)*an L.pos (aS T y):=L.hm.mul x y
theorem Lf.sub(x y:Et ts):an L.pos (aS T (x-y))=an L.pos (aS T x)-an L.pos (aS T y):=L.hm.sub x y
theorem Lf.one:an L.pos (aS T (1:Et ts))=1:=L.hm.one
theorem Lf.at{p:Pq}(hp:Nq ts.length p)(m:Rat×Rat):an L.pos (eF T p m).1=an L.pos (aS T (eF ts p m).1)/\an L.pos (eF T p m).2=an L.pos (aS T (eF ts p m).2):=by
 obtain⟨h1,h2,h3,h4⟩:=hp;unfold eF;dsimp only;constructor
 ·rw[L.add,L.sub,L.mul,L.mul,L.low _ h1,L.low _ h2,L.low _ h3,L.q,L.q,kO,cU,cH,cH]
 ·rw[L.add,L.add,L.mul,L.mul,L.low _ h1,L.low _ h2,L.low _ h4,L.q,L.q,kO,kO,cH,cH]
theorem Lf.zero(x:Et ts):ak (aS T x)=0↔ak x=0:=(fg L.pos).symm.trans (L.hm.zero x)
theorem Lf.ch{p:Pq}(hp:Nq ts.length p)(h:CH ts p):CH T p:=by
 obtain⟨h1,h2,h3,h4⟩:=hp;have e:=(L.zero _).2 h;have e1:=(fg L.pos).2 e;refine(fg L.pos).1 ?_;rw[L.sub,L.add,L.mul,L.mul,L.low _ h1,L.low _ h2,L.one]at e1;rw[cU,kO,cH,cH];exact e1
end
end Go.Lw
namespace Go.Lw
open Lean.Grind (CommRing)
def gK(bs bs':List Pq)(n:Nat)(b:Int):Prop:=bs'.getD b.toNat bm=bs.getD b.toNat bm/\Nq n (bs.getD b.toNat bm)
section
variable{ts T:LL}(L:Lf ts T)
include L
theorem Lf.pt(l:Li){bs bs':List Pq}{b:Int}(h:gK bs bs' ts.length b)(pt:Int) :
  an L.pos (ba l T bs' b pt).1=an L.pos (aS T (ba l ts bs b pt).1)/\an L.pos (ba l T bs' b pt).2=an L.pos (aS T (ba l ts bs b pt).2):=by
 unfold ba;rw[h.1];exact L.at h.2 _
end
section
variable{T:LL}(hp:gQ T)
include hp
theorem wt{l:Li}{bs:List Pq}{j:Jt}(hk:j.kind=0)(h1:an hp (ba l T bs j.a j.point).1=an hp (ba l T bs j.b j.on).1)(h2:an hp (ba l T bs j.a j.point).2=an hp (ba l T bs j.b j.on).2):JH l T bs j:=by
 unfold JH;rw[if_pos hk];exact⟨(kK hp).1 h1,(kK hp).1 h2⟩
theorem zT{l:Li}{bs:List Pq}{j:Jt}(hk:j.kind≠0)
  (h:(an hp (ba l T bs j.b j.to).1-an hp (ba l T bs j.b j.on).1)*(an hp (ba l T bs j.a j.point).2-an hp (ba l T bs j.b j.on).2)-(an hp (ba l T bs j.b j.to).2-an hp (ba l T bs j.b j.on).2)*(an hp (ba l T bs j.a j.point).1-an hp (ba l T bs j.b j.on).1)=0):JH l T bs j:=by
 unfold JH;rw[if_neg hk];refine(fg hp).1 ?_;unfold oi crsE a8;dsimp only;rw[cU,cH,cH,cU,cU,cU,cU];exact h
end
section
variable{ts T:LL}(L:Lf ts T)
include L
theorem Lf.jh{l:Li}{bs bs':List Pq}{j:Jt}(ha:gK bs bs' ts.length j.a)(hb:gK bs bs' ts.length j.b)(h:JH l ts bs j):JH l T bs' j:=by
 have a:=L.pt l ha;have b:=L.pt l hb
 by_cases hk:j.kind=0
 ·unfold JH at h;rw[if_pos hk]at h;have e1:=(fg L.pos).2 ((L.zero _).2 h.1);have e2:=(fg L.pos).2 ((L.zero _).2 h.2);rw[L.sub]at e1 e2;refine wt L.pos hk ?_ ?_
  ·rw[(a _).1,(b _).1];grind
  ·rw[(a _).2,(b _).2];grind
 ·unfold JH at h;rw[if_neg hk]at h;have e1:=(fg L.pos).2 ((L.zero _).2 h);unfold oi crsE a8 at e1;dsimp only at e1;simp only[L.sub,L.mul]at e1;refine zT L.pos hk ?_;rw[(a _).1,(a _).2,(b _).1,(b _).2,(b _).1,(b _).2];exact e1
end
section
variable{l:Li}{a:As}{T:LL}(L:Lf (llq a.rs) T)
include L
theorem Lf.pin{bs':List Pq}{j:Jt}{i:Int}(hk:j.kind=0)(tie:(j.a=i/\gK (a9 a) bs' (llq a.rs).length j.b)\/(j.a≠i/\j.b=i/\gK (a9 a) bs' (llq a.rs).length j.a))
  (h:eF T (bs'.getD i.toNat bm) (aj l j i)=(aS T (aK l a j i).1,aS T (aK l a j i).2)):JH l T bs' j:=by
 have h1:=congrArg Prod.fst h;have h2:=congrArg Prod.snd h;dsimp only at h1 h2;rcases tie with⟨e,hs⟩ |⟨e,e2,hs⟩
 ·have b:=L.pt l hs j.on;unfold aj aK at h1 h2;simp only[if_pos e]at h1 h2;rw[lR]at h1 h2;refine wt L.pos hk ?_ ?_
  ·rw[b.1];unfold ba;rw[e];exact congrArg (an L.pos) h1
  ·rw[b.2];unfold ba;rw[e];exact congrArg (an L.pos) h2
 ·have b:=L.pt l hs j.point;unfold aj aK at h1 h2;simp only[if_neg e]at h1 h2;rw[lR]at h1 h2;refine wt L.pos hk ?_ ?_
  ·rw[b.1]
   conv=>rhs;unfold ba
   rw[e2];exact(congrArg (an L.pos) h1).symm
  ·rw[b.2]
   conv=>rhs;unfold ba
   rw[e2];exact(congrArg (an L.pos) h2).symm
end
theorem n8{bs:List Pq}{i k:Int}{p:Pq}(hi:0<=i)(hk:0<=k)(h:k≠i):(bs.set i.toNat p).getD k.toNat bm=bs.getD k.toNat bm:=by
 rw[getD_eq_getElem?_getD,getD_eq_getElem?_getD,List.getElem?_set_ne oz]
theorem pa{bs:List Pq}{i:Nat}{p:Pq}(h:i<bs.length):(bs.set i p).getD i bm=p:=by
 rw[getD_eq_getElem?_getD,List.getElem?_set_self h];rfl
theorem On(n:Nat):Nq n bm:=⟨zero_le _,zero_le _,zero_le _,zero_le _⟩
theorem Ig{bs:List Pq}{n:Nat}(h:∀p∈bs,Nq n p)(i:Nat):Nq n (bs.getD i bm):=by
 rw[getD_eq_getElem?_getD];cases e:bs[i]? with
 |none=>exact On n
 |some p=>exact h p (mem_of_getElem? e)
structure GrpH(l:Li)(a:As)(g:Gr)(s:Sv):Prop where
  lf:Lf (llq a.rs) s.ts
  js:∀z∈g.jo,JH l s.ts (bO (a9 a) g.bo s.ps) (l.jo.getD z.toNat default)
  cs:∀b∈g.bo,CH s.ts ((bO (a9 a) g.bo s.ps).getD b.toNat bm)
theorem SP{R:Type}[CommRing R]{C S a1 a2 b1 b2 x1 x2 P1 P2 o1 o2:R}(hcs:C*C+S*S=1)(g:x1*(P2-o2)-x2*(P1-o1)=(a1-b1)*b2-(a2-b2)*b1)
  (y1:C*(a1-b1)-S*(a2-b2)=x1) (y2:S*(a1-b1)+C*(a2-b2)=x2) :
  (o1+(C*a1-S*a2)-(o1+(C*b1-S*b2)))*(P2-(o2+(S*b1+C*b2)))-(o2+(S*a1+C*a2)-(o2+(S*b1+C*b2)))*(P1-(o1+(C*b1-S*b2)))=0:=by
 have e1:o1+(C*a1-S*a2)-(o1+(C*b1-S*b2))=x1:=by rw[<- y1];grind
 have e2:o2+(S*a1+C*a2)-(o2+(S*b1+C*b2))=x2:=by rw[<- y2];grind
 rw[e1,e2];have e3:x1*(P2-(o2+(S*b1+C*b2)))-x2*(P1-(o1+(C*b1-S*b2)))=(x1*(P2-o2)-x2*(P1-o1))-(x1*(S*b1+C*b2)-x2*(C*b1-S*b2)):=by clear hcs g y1 y2 e1 e2;grind
 have e4:x1*(S*b1+C*b2)-x2*(C*b1-S*b2)=((a1-b1)*b2-(a2-b2)*b1)*(C*C+S*S):=by rw[<- y1,<- y2];clear hcs g y1 y2 e1 e2 e3;grind
 rw[e3,e4,g,hcs];grind
section
variable{l:Li}{a:As}{r:Nat}(tw:Tw (llq a.rs) r)(hN:∀p∈a9 a,Nq (llq a.rs).length p)
include tw hN
theorem xe{bs':List Pq}{b:Int}(h:bs'.getD b.toNat bm=(a9 a).getD b.toNat bm):gK (a9 a) bs' (llq a.rs).length b:=by
 have:=tw;exact⟨h,Ig hN _⟩
theorem U4{u:Rat×Rat}(h:b7 u u≠0):0<ak (qE (b7 u u):Et (llq a.rs)):=by
 have:=tw;have:=hN;have h0:0<=b7 u u:=Rat.add_nonneg (ol u.1) (ol u.2)
 have h1:0<b7 u u:=by
  rcases Rat.le_iff_lt_or_eq.1 h0 with g |g
  ·exact g
  ·exact absurd g.symm h
 rw[IY,wg h1];decide
theorem JZ{i k z0 z1 z2:Int}{j0 j1 j2:Jt}(ne:i≠k)(t0:TieO l 0 [i,k] z0 i j0)(t1:TieO l 0 [i,k] z1 k j1)(h2:l.jo[z2.toNat]?=some j2)(kd:j2.kind=0)
  (tie:(j2.a=i/\j2.b=k)\/(j2.b=i/\j2.a=k)) (hi:0<=i) (hk:0<=k) (hil:i.toNat<(a9 a).length) (hkl:k.toNat<(a9 a).length) (hn:∀j∈l.jo,0<=j.a/\0<=j.b)
  {s:Sv} (hs:s∈lH l a i k j0 j1 j2):GrpH l a ⟨1,[i,k],[z0,z1,z2],0⟩ s:=by
 unfold lH at hs;split at hs
 ·cases hs
 ·rename_i hz;obtain⟨w1,w2⟩:=wJ (Bool.eq_false_iff.2 hz);split at hs
  ·cases hs
  ·rename_i hc;have hc:=Decidable.not_not.1 hc;have geo:=LY tw (fun X hX=>BQ tw.pos hX) hc (U4 tw hN w1);unfold kt at hs;obtain ⟨m,hm,rfl⟩:=List.mem_map.1 hs;obtain ⟨x,hx⟩:=aq (List.mem_range.1 hm);have G:=geo x (mem_of_getElem? hx);unfold j9;rw [aB hx];have e0:TieO l 0 [i,k] z0 i j0:=t0;obtain ⟨n0,n1⟩:=hn j0 (mem_of_getElem? t0.hj);obtain ⟨n2,n3⟩:=hn j1 (mem_of_getElem? t1.hj);have hne:i.toNat ≠ k.toNat:=by omega
   generalize hM:eU (aK l a j0 i) (aK l a j1 k) (qE (bY (aj l j2 i) (aj l j0 i))) (qE (bY (aj l j2 k) (aj l j1 k)))=M at *;obtain⟨B0,hB0⟩:∃B0,B0=nD M.ts x ⟨aj l j0 i,P2.l (aK l a j0 i),aj l j2 i⟩:=⟨_,rfl⟩
   obtain⟨B1,hB1⟩:∃B1,B1=nD M.ts x ⟨aj l j1 k,P2.l (aK l a j1 k),aj l j2 k⟩:=⟨_,rfl⟩
   have hbs:bO (a9 a) [i,k] [B0,B1]=((a9 a).set i.toNat B0).set k.toNat B1:=rfl;have g0:(bO (a9 a) [i,k] [B0,B1]).getD i.toNat bm=B0:=by rw[hbs,n8 hk hi ne,pa hil]
   have g1:(bO (a9 a) [i,k] [B0,B1]).getD k.toNat bm=B1:=by rw[hbs,pa (by rw[length_set];exact hkl)]
   have gn:∀b:Int,0<=b->b∉[i,k]->gK (a9 a) (bO (a9 a) [i,k] [B0,B1]) (llq a.rs).length b:=fun b h0 hb=>xe tw hN (by
    rw[hbs,n8 hk h0 (fun e=>hb (by simp[e])),n8 hi h0 (fun e=>hb (by simp[e]))])
   have p0:eF M.ts B0 (aj l j0 i)=(aS M.ts (aK l a j0 i).1,aS M.ts (aK l a j0 i).2):=by rw[hB0];exact si
   have p1:eF M.ts B1 (aj l j1 k)=(aS M.ts (aK l a j1 k).1,aS M.ts (aK l a j1 k).2):=by rw[hB1];exact si
   have q0:eF M.ts B0 (aj l j2 i)=(dE M.ts x.1,dE M.ts x.2):=by
    rw[hB0];refine(yn w1).trans ?_;unfold mr kg;refine Prod.ext ?_ ?_
    ·dsimp only;grind
    ·dsimp only;grind
   have q1:eF M.ts B1 (aj l j2 k)=(dE M.ts x.1,dE M.ts x.2):=by
    rw[hB1];refine(yn w2).trans ?_;unfold mr kg;refine Prod.ext ?_ ?_
    ·dsimp only;grind
    ·dsimp only;grind
   refine⟨G.lf,?_,?_⟩
   ·intro z hz;show JH l M.ts (bO (a9 a) [i,k] [_,_]) _;rw[<- hB0,<- hB1];rcases List.mem_cons.1 hz with rfl |hz
    ·rw [aB t0.hj];refine G.lf.pin t0.kd (i:=i) ?_ (by rw [g0]; exact p0);rcases t0.tie with ⟨e,hb⟩ | ⟨e,hb⟩
     ·exact .inl ⟨e,gn _ n1 hb⟩
     ·exact .inr ⟨fun e2=>hb (by simp[e2]),e,gn _ n0 hb⟩
    ·rcases List.mem_cons.1 hz with rfl |hz
     ·rw [aB t1.hj];refine G.lf.pin t1.kd (i:=k) ?_ (by rw [g1]; exact p1);rcases t1.tie with ⟨e,hb⟩ | ⟨e,hb⟩
      ·exact .inl ⟨e,gn _ n3 hb⟩
      ·exact .inr ⟨fun e2=>hb (by simp[e2]),e,gn _ n2 hb⟩
     ·rw[List.mem_singleton.1 hz,aB h2]
      have key:ba l M.ts (bO (a9 a) [i,k] [B0,B1]) j2.a j2.point=ba l M.ts (bO (a9 a) [i,k] [B0,B1]) j2.b j2.on:=by
       unfold ba;rcases tie with⟨e,e'⟩ |⟨e,e'⟩
       ·have c0 : aj l j2 i = aX l i j2.point := by unfold aj; rw [if_pos e]
        have c1:aj l j2 k=aX l k j2.on:=by unfold aj;rw[if_neg oz]
        rw[e,e',g0,g1,<- c0,<- c1,q0,q1]
       ·have c0 : aj l j2 k = aX l k j2.point := by unfold aj; rw [if_pos e']
        have c1:aj l j2 i=aX l i j2.on:=by unfold aj;rw[if_neg oz]
        rw[e,e',g0,g1,<- c0,<- c1,q0,q1]
      exact wt G.lf.pos kd (by rw[key]) (by rw[key])
   ·intro b hb;show CH M.ts ((bO (a9 a) [i,k] [_,_]).getD b.toNat bm);rw[<- hB0,<- hB1];rcases List.mem_cons.1 hb with rfl |hb
    ·rw[g0,hB0];refine uZ G.lf.pos w1 ?_;have:=G.c1;rw[G.lf.q]at this;exact this
    ·rw[List.mem_singleton.1 hb,g1,hB1];refine uZ G.lf.pos w2 ?_;have:=G.c2;rw[G.lf.q]at this;exact this
theorem TM{i z0 z1:Int}{j0 j:Jt}(t0:TieO l 0 [i] z0 i j0)(t1:TieO l 1 [i] z1 i j)(ha:j.a=i)(hi:0<=i)(hil:i.toNat<(a9 a).length)(hn:∀j∈l.jo,0<=j.a/\0<=j.b)
  {s:Sv} (hs:s∈kV l a i j0 j):GrpH l a ⟨2,[i],[z0,z1],0⟩ s:=by
 unfold kV at hs;split at hs
 ·cases hs
 ·rename_i hz;have w1:=uz (Bool.eq_false_iff.2 hz);split at hs
  ·cases hs
  ·rename_i hc;have hc:=Decidable.not_not.1 hc;have geo:=UA tw (fun X hX=>BQ tw.pos hX) (c:=aK l a j0 i) (z:=qE (bY (aX l i j.point) (aj l j0 i))) hc;unfold kt at hs;obtain⟨m,hm,rfl⟩:=List.mem_map.1 hs;obtain⟨x,hx⟩:=aq (List.mem_range.1 hm);have G:=geo x (mem_of_getElem? hx);have L:=G.lf;unfold j9;rw[aB hx];obtain⟨n0,n1⟩:=hn j0 (mem_of_getElem? t0.hj);obtain⟨n2,n3⟩:=hn j (mem_of_getElem? t1.hj);generalize hM:eY (bn l a j.b j.on) (bn l a j.b j.to) (aK l a j0 i) (qE (bY (aX l i j.point) (aj l j0 i)))=M at *;obtain⟨B0,hB0⟩:∃B0,B0=nD M.ts x ⟨aj l j0 i,P2.l (aK l a j0 i),aX l i j.point⟩:=⟨_,rfl⟩
   have hbs:bO (a9 a) [i] [B0]=(a9 a).set i.toNat B0:=rfl;have g0:(bO (a9 a) [i] [B0]).getD i.toNat bm=B0:=by rw[hbs,pa hil]
   have gn:∀b:Int,0<=b->b∉[i]->gK (a9 a) (bO (a9 a) [i] [B0]) (llq a.rs).length b:=fun b h0 hb=>xe tw hN (by
    rw[hbs,n8 hi h0 (fun e=>hb (by simp[e]))])
   have p0:eF M.ts B0 (aj l j0 i)=(aS M.ts (aK l a j0 i).1,aS M.ts (aK l a j0 i).2):=by rw[hB0];exact si
   have q0:eF M.ts B0 (aX l i j.point)=(dE M.ts x.1,dE M.ts x.2):=by
    rw[hB0];refine(yn w1).trans ?_;unfold mr kg;refine Prod.ext ?_ ?_
    ·dsimp only;grind
    ·dsimp only;grind
   have hjb:gK (a9 a) (bO (a9 a) [i] [B0]) (llq a.rs).length j.b:=by
    rcases t1.tie with⟨e,hb⟩ |⟨e,hb⟩
    ·exact gn _ n3 hb
    ·exact absurd (by simp[ha]) hb
   refine⟨G.lf,?_,?_⟩
   ·intro z hz;show JH l M.ts (bO (a9 a) [i] [_]) _;rw[<- hB0];rcases List.mem_cons.1 hz with rfl |hz
    ·rw [aB t0.hj];refine L.pin t0.kd (i:=i) ?_ (by rw [g0]; exact p0);rcases t0.tie with ⟨e,hb⟩ | ⟨e,hb⟩
     ·exact .inl ⟨e,gn _ n1 hb⟩
     ·exact .inr ⟨fun e2=>hb (by simp[e2]),e,gn _ n0 hb⟩
    ·rw [List.mem_singleton.1 hz, aB t1.hj];refine zT L.pos (by rw [t1.kd]; decide) ?_;have ec:=(fg L.pos).2 G.l;rw [cU,cH,cH,cU,cU,cU,cU,lR,lR] at ec;have on:=L.pt l hjb j.on;have to:=L.pt l hjb j.to
     have pp:ba l M.ts (bO (a9 a) [i] [B0]) j.a j.point=(dE M.ts x.1,dE M.ts x.2):=by
      unfold ba;rw[ha,g0,q0]
     rw[pp,on.1,on.2,to.1,to.2];exact ec
   ·intro b hb;show CH M.ts ((bO (a9 a) [i] [_]).getD b.toNat bm);rw[<- hB0,List.mem_singleton.1 hb,g0,hB0];refine uZ L.pos w1 ?_;have:=G.c;rw[L.q]at this;exact this
theorem AM{i z0 z1:Int}{j0 j:Jt}(t0:TieO l 0 [i] z0 i j0)(t1:TieO l 1 [i] z1 i j)(ha:j.a≠i)(hi:0<=i)(hil:i.toNat<(a9 a).length)(hn:∀j∈l.jo,0<=j.a/\0<=j.b)(hv:b7 (dl l i j) (dl l i j)≠0)
  (hd:ak (cI l a i j0 j)≠0) {T:LL} (L:Lf (llq a.rs) T) {q:List Rat} (hq:an L.pos (dE T q*dE T q)=an L.pos (aS T (bi l a i j0 j))) {n:Int} :
  GrpH l a ⟨3,[i],[z0,z1],0⟩ ⟨T,[qz T (d8 l a i j0 j) q],n⟩:=by
 obtain⟨n0,n1⟩:=hn j0 (mem_of_getElem? t0.hj);obtain⟨n2,n3⟩:=hn j (mem_of_getElem? t1.hj)
 obtain⟨tb,tn⟩:j.b=i/\j.a∉[i]:=by
  rcases t1.tie with⟨e,hb⟩ |h
  ·exact absurd e ha
  ·exact h
 obtain⟨w,hw⟩:∃w:P2 T,w=n6 T q (d8 l a i j0 j).h (d8 l a i j0 j).d (d8 l a i j0 j).w:=⟨_,rfl⟩
 obtain⟨o,ho⟩:∃o:P2 T,o=(aS T (aK l a j0 i).1,aS T (aK l a j0 i).2):=⟨_,rfl⟩
 obtain⟨B0,hB0⟩:∃B0,B0=gL (dl l i j) w (aj l j0 i) o:=⟨_,rfl⟩
 have e0:qz T (d8 l a i j0 j) q=B0:=by rw[hB0,hw,ho];rfl
 rw[e0];have hbs:bO (a9 a) [i] [B0]=(a9 a).set i.toNat B0:=rfl;have g0:(bO (a9 a) [i] [B0]).getD i.toNat bm=B0:=by rw[hbs,pa hil]
 have gn:∀b:Int,0<=b->b∉[i]->gK (a9 a) (bO (a9 a) [i] [B0]) (llq a.rs).length b:=fun b h0 hb=>xe tw hN (by
  rw[hbs,n8 hi h0 (fun e=>hb (by simp[e]))])
 have hD:an L.pos (aS T (cI l a i j0 j))=an L.pos (aS T (cq l a i j0 j).1)*an L.pos (aS T (cq l a i j0 j).1)+an L.pos (aS T (cq l a i j0 j).2)*an L.pos (aS T (cq l a i j0 j).2):=by
  rw[<- L.mul,<- L.mul,<- L.add];rfl
 have hI:an L.pos (iE (aS T (cI l a i j0 j)))*an L.pos (aS T (cI l a i j0 j))=1:=BW L.pos (fun e=>hd ((L.zero _).1 e))
 have hX:an L.pos (dE T q)*an L.pos (dE T q)=an L.pos (qE (jS l i j))*an L.pos (aS T (cI l a i j0 j))-an L.pos (qE (cR l i j0 j))*an L.pos (qE (cR l i j0 j)):=by
  rw[<- cH,hq];unfold bi;rw[L.sub,L.mul,L.mul,L.q,L.q]
 have eh:dE T (d8 l a i j0 j).h=qE (cR l i j0 j):=gT _ _;have x1:w.1=(dE T q*aS T (cq l a i j0 j).1-qE (cR l i j0 j)*-aS T (cq l a i j0 j).2)*iE (aS T (cI l a i j0 j)):=by rw[hw,<- eh];rfl
 have x2:w.2=(dE T q*aS T (cq l a i j0 j).2-qE (cR l i j0 j)*aS T (cq l a i j0 j).1)*iE (aS T (cI l a i j0 j)):=by rw[hw,<- eh];rfl
 have G:=QI hD hI hX (w1:=an L.pos w.1) (w2:=an L.pos w.2) (by rw[x1,cH,cU,cH,cH,Uz]) (by rw[x2,cH,cU,cH,cH])
 have hc:CH T B0:=by
  rw[hB0];refine uZ L.pos hv ?_;refine(kK L.pos (x:=w.1*w.1+w.2*w.2) (y:=qE (b7 (dl l i j) (dl l i j)))).1 ?_;rw[kO,cH,cH,G.1];rfl
 refine⟨L,?_,?_⟩
 ·intro z hz;show JH l T (bO (a9 a) [i] [B0]) _;rcases List.mem_cons.1 hz with rfl |hz
  ·rw [aB t0.hj];refine L.pin t0.kd (i:=i) ?_ (by rw [g0,hB0,si,ho]);rcases t0.tie with ⟨e,hb⟩ | ⟨e,hb⟩
   ·exact .inl ⟨e,gn _ n1 hb⟩
   ·exact .inr ⟨fun e2=>hb (by simp[e2]),e,gn _ n0 hb⟩
  ·rw [List.mem_singleton.1 hz, aB t1.hj];refine zT L.pos (by rw [t1.kd]; decide) ?_;have pp:=L.pt l (gn _ n2 tn) j.point;have eon:ba l T (bO (a9 a) [i] [B0]) j.b j.on = eF T B0 (aX l i j.on):=by unfold ba; rw [tb,g0]
   have eto:ba l T (bO (a9 a) [i] [B0]) j.b j.to=eF T B0 (aX l i j.to):=by unfold ba;rw[tb,g0]
   have W1:an L.pos (aS T (cq l a i j0 j).1)=an L.pos (aS T (ba l (llq a.rs) (a9 a) j.a j.point).1)-an L.pos o.1:=by
    rw[ho,<- L.sub,<- lR];rfl
   have W2:an L.pos (aS T (cq l a i j0 j).2)=an L.pos (aS T (ba l (llq a.rs) (a9 a) j.a j.point).2)-an L.pos o.2:=by
    rw[ho,<- L.sub,<- lR];rfl
   have g2:=G.2;rw[W1,W2]at g2;rw[pp.1,pp.2,eon,eto,hB0,uq,uq];have gg:=Jm (w:=w) hv
   have hcs:an L.pos (du (dl l i j) w)*an L.pos (du (dl l i j) w)+an L.pos (dq (dl l i j) w)*an L.pos (dq (dl l i j) w)=1:=by
    have h9:=(fg L.pos).2 hc;rw[hB0,uE,vL,cU,kO,cH,cH,PV]at h9;grind
   have v1:(qE (dl l i j).1:Et T)=qE ((aX l i j.to).1-(aj l j0 i).1)-qE ((aX l i j.on).1-(aj l j0 i).1):=by rw[<- tx];congr 1;show(aX l i j.to).1-(aX l i j.on).1=_;grind
   have v2:(qE (dl l i j).2:Et T)=qE ((aX l i j.to).2-(aj l j0 i).2)-qE ((aX l i j.on).2-(aj l j0 i).2):=by rw[<- tx];congr 1;show(aX l i j.to).2-(aX l i j.on).2=_;grind
   have hh:(qE (cR l i j0 j):Et T)=qE (dl l i j).1*qE ((aX l i j.on).2-(aj l j0 i).2)-qE (dl l i j).2*qE ((aX l i j.on).1-(aj l j0 i).1):=by
    rw[<- lP,<- lP,<- tx];rfl
   have y1:=congrArg (an L.pos) gg.1;have y2:=congrArg (an L.pos) gg.2;rw[hh,cU,cH,cH]at g2;rw[v1,v2]at g2 y1 y2;simp only[kO,cU,cH]at g2 y1 y2 ⊢
   revert hcs g2 y1 y2
   generalize an L.pos (qE ((aX l i j.to).1-(aj l j0 i).1):Et T)=a1;generalize an L.pos (qE ((aX l i j.to).2-(aj l j0 i).2):Et T)=a2;generalize an L.pos (qE ((aX l i j.on).1-(aj l j0 i).1):Et T)=b1;generalize an L.pos (qE ((aX l i j.on).2-(aj l j0 i).2):Et T)=b2;generalize an L.pos (du (dl l i j) w)=C;generalize an L.pos (dq (dl l i j) w)=S;generalize an L.pos (aS T (ba l (llq a.rs) (a9 a) j.a j.point).1)=P1;generalize an L.pos (aS T (ba l (llq a.rs) (a9 a) j.a j.point).2)=P2;generalize an L.pos o.1=o1;generalize an L.pos o.2=o2;generalize an L.pos w.1=x1;generalize an L.pos w.2=x2;intro hcs g2 y1 y2;exact SP hcs g2 y1 y2
 ·intro b hb;rw[List.mem_singleton.1 hb];show CH T ((bO (a9 a) [i] [B0]).getD i.toNat bm);rw[g0];exact hc
end
end Go.Lw
namespace Go.Lw
open Lean.Grind (CommRing)
theorem KY(half:Bool)(t:Rat):dC half t*dC half t+dF half t*dF half t=1:=by
 unfold dC dF;cases half
 ·have h:1+t*t≠0:=by
   have:=ol t;intro e;grind
  simp only[Bool.false_eq_true,if_false]
  have e1:(1-t*t)/(1+t*t)*((1-t*t)/(1+t*t))+(t+t)/(1+t*t)*((t+t)/(1+t*t))=((1-t*t)*(1-t*t)+(t+t)*(t+t))*((1+t*t)⁻¹*(1+t*t)⁻¹):=by
   rw[Rat.div_def,Rat.div_def];grind
  rw[e1];have e2:(1+t*t)*(1+t*t)⁻¹=1:=Rat.mul_inv_cancel _ h;generalize(1+t*t)⁻¹=k at e2 ⊢;have e3:((1-t*t)*(1-t*t)+(t+t)*(t+t))*(k*k)=((1+t*t)*k)*((1+t*t)*k):=by grind
  rw[e3,e2,Rat.one_mul]
 ·simp only[if_true];decide +kernel
section
variable{l:Li}{a:As}{r:Nat}(tw:Tw (llq a.rs) r)(hN:∀p∈a9 a,Nq (llq a.rs).length p)
include tw hN
theorem Mb{i z0 z1:Int}{j0 j:Jt}(t0:TieO l 0 [i] z0 i j0)(t1:TieO l 1 [i] z1 i j)(ha:j.a≠i)(hi:0<=i)(hil:i.toNat<(a9 a).length)(hn:∀j∈l.jo,0<=j.a/\0<=j.b)(hv:b7 (dl l i j) (dl l i j)≠0)
  {s:Sv} (hs:s∈kU l a i j0 j):GrpH l a ⟨3,[i],[z0,z1],0⟩ s:=by
 unfold kU at hs;split at hs
 ·cases hs
 ·rename_i h1;split at hs
  ·cases hs
  ·rename_i h2;have hd:=vA tw h2 h1;split at hs
   ·rename_i h3;have hp:=BQ tw.pos h3;have L:=yc (bi l a i j0 j) hp;have e:=yU (bi l a i j0 j);unfold kc at hs;obtain⟨m,hm,rfl⟩:=List.mem_map.1 hs;have hm:=List.mem_range.1 hm;unfold jC
    match m,hm with
    |0,_ =>
     refine AM tw hN t0 t1 ha hi hil hn hv hd L ?_;show an L.pos (bC (bi l a i j0 j)*bC (bi l a i j0 j))=_;rw[e];rfl
    |1,_ =>
     refine AM tw hN t0 t1 ha hi hil hn hv hd L ?_;show an L.pos (dE _ (sX (-bC (bi l a i j0 j)))*dE _ (sX (-bC (bi l a i j0 j))))=_;rw[ji,show -bC (bi l a i j0 j)*-bC (bi l a i j0 j)=bC (bi l a i j0 j)*bC (bi l a i j0 j) by grind,e];rfl
    |m+2,h=>exact absurd h (by simp)
   ·rename_i h3;have hX:ak (bi l a i j0 j) = 0:=by omega
    have L:=uM (ts:=llq a.rs) tw.pos;unfold kc at hs;obtain⟨m,hm,rfl⟩:=List.mem_map.1 hs;have hm:=List.mem_range.1 hm;unfold jC
    match m,hm with
    |0,_ =>
     refine AM tw hN t0 t1 ha hi hil hn hv hd L ?_;show an L.pos (dE _ []*dE _ [])=_;have e0:(dE (llq a.rs) []:Et (llq a.rs))=0:=by rw[E.zero_def];exact fV _
     rw[e0,ez];refine((fg L.pos).2 ?_).trans ((fg L.pos).2 hX).symm;rw[show(0:Et (llq a.rs))*0=0 by grind];exact(gE _ _ L.pos).zero
    |m+1,h=>exact absurd h (by simp)
theorem L8{i z0 d:Int}{j0:Jt}(t0:TieO l 0 [i] z0 i j0)(hi:0<=i)(hil:i.toNat<(a9 a).length)(hn:∀j∈l.jo,0<=j.a/\0<=j.b){x:Tn}
  {s:Sv} (hs:s∈kW l a i j0 x):GrpH l a ⟨0,[i],[z0],d⟩ s/\dE s.ts ((bO (a9 a) [i] s.ps).getD i.toNat bm).c=qE (dC x.half x.t.q)/\dE s.ts ((bO (a9 a) [i] s.ps).getD i.toNat bm).s=qE (dF x.half x.t.q):=by
 unfold kW at hs;split at hs
 ·cases hs
 ·rw[List.mem_singleton.1 hs];obtain⟨n0,n1⟩:=hn j0 (mem_of_getElem? t0.hj);have L:=uM (ts:=llq a.rs) tw.pos;have hbs:∀B0,bO (a9 a) [i] [B0]=(a9 a).set i.toNat B0:=fun _=>rfl
  have g0:∀B0,(bO (a9 a) [i] [B0]).getD i.toNat bm=B0:=fun B0=>by rw[hbs,pa hil]
  have gn:∀(B0:Pq)(b:Int),0<=b->b∉[i]->gK (a9 a) (bO (a9 a) [i] [B0]) (llq a.rs).length b:=fun B0 b h0 hb=>xe tw hN (by
   rw[hbs,n8 hi h0 (fun e=>hb (by simp[e]))])
  have eN:(jO (((1:Int):Rat),0):Et (llq a.rs))=qE 1:=congrArg qE (show((1:Int):Rat)*((1:Int):Rat)+0*0=1 by decide +kernel);have q1:(qE 1:Et (llq a.rs))=1:=rfl
  have hc:(dE (llq a.rs) (kL l a i j0 x).c:Et (llq a.rs))=qE (dC x.half x.t.q):=by
   unfold kL;rw[uE];unfold du;rw[eN,AP,lK,zE];grind
  have hsn:(dE (llq a.rs) (kL l a i j0 x).s:Et (llq a.rs))=qE (dF x.half x.t.q):=by
   unfold kL;rw[vL];unfold dq;rw[eN,AP,lK,zE];grind
  refine⟨⟨L,?_,?_⟩,by rw[g0];exact hc,by rw[g0];exact hsn⟩
  ·intro z hz;rw [List.mem_singleton.1 hz,aB t0.hj];show JH l (llq a.rs) (bO (a9 a) [i] [kL l a i j0 x]) j0;refine L.pin t0.kd (i:=i) ?_ (by rw [g0,ez,ez]; exact si);rcases t0.tie with ⟨e,hb⟩ | ⟨e,hb⟩
   ·exact .inl ⟨e,gn _ _ n1 hb⟩
   ·exact .inr ⟨fun e2=>hb (by simp[e2]),e,gn _ _ n0 hb⟩
  ·intro b hb;rw[List.mem_singleton.1 hb];show CH (llq a.rs) ((bO (a9 a) [i] [kL l a i j0 x]).getD i.toNat bm);rw[g0];unfold CH;rw[hc,hsn,<- lP,<- lP,<- qO,KY,q1,show(1:Et (llq a.rs))-1=0 by grind];exact(gE _ _ L.pos).zero
theorem RR{g:Gr}(hg:DyK l g)(hgb:∀b∈g.bo,0<=b/\b.toNat<(a9 a).length)(hli:ax l=0){x:Tn}{s:Sv}(hs:s∈fj l a g x):GrpH l a g s/\(g.kind=0->dE s.ts ((bO (a9 a) g.bo s.ps).getD (ci g 0).toNat bm).c=qE (dC x.half x.t.q)/\dE s.ts ((bO (a9 a) g.bo s.ps).getD (ci g 0).toNat bm).s=qE (dF x.half x.t.q)):=by
 have hn:∀j∈l.jo,0<=j.a/\0<=j.b:=fun j hj=>by
  obtain⟨n,hn⟩:=getElem?_of_mem hj;obtain⟨i1,i2,_⟩:=cZ hli hn;have i1:=di i1;have i2:=di i2;omega
 cases hg with
 | @drv b z d j dr t d0 hd hb =>
  have e:bq l ⟨0,[b],[z],d⟩ 0=j:=aB t.hj;have hs:s∈kW l a b j x:=by rw[<- e];exact hs
  obtain⟨h1,h2⟩:=hgb b (by simp);have h:=L8 (d:=d) tw hN t h1 h2 hn hs;exact⟨h.1,fun _=>h.2⟩
 | @rrr i k z0 z1 z2 j0 j1 j2 ne t0 t1 h0 h2 kd tie =>
  have e0:bq l ⟨1,[i,k],[z0,z1,z2],0⟩ 0=j0:=aB t0.hj;have e1:bq l ⟨1,[i,k],[z0,z1,z2],0⟩ 1=j1:=aB t1.hj;have e2:bq l ⟨1,[i,k],[z0,z1,z2],0⟩ 2=j2:=aB h2;have hs:s∈lH l a i k j0 j1 j2:=by rw[<- e0,<- e1,<- e2];exact hs
  obtain⟨b1,b2⟩:=hgb i (by simp);obtain⟨b3,b4⟩:=hgb k (by simp);exact⟨JZ tw hN ne t0 t1 h2 kd tie b1 b3 b2 b4 hn hs,fun h=>absurd h (by simp)⟩
 | @pr i z0 z1 j0 j1 t0 t1 ha =>
  have e0:bq l ⟨2,[i],[z0,z1],0⟩ 0=j0:=aB t0.hj;have e1:bq l ⟨2,[i],[z0,z1],0⟩ 1=j1:=aB t1.hj;have hs:s∈kV l a i j0 j1:=by rw[<- e0,<- e1];exact hs
  obtain⟨b1,b2⟩:=hgb i (by simp);exact⟨TM tw hN t0 t1 ha b1 b2 hn hs,fun h=>absurd h (by simp)⟩
 | @rp i z0 z1 j0 j1 t0 t1 ha =>
  have e0:bq l ⟨3,[i],[z0,z1],0⟩ 0=j0:=aB t0.hj;have e1:bq l ⟨3,[i],[z0,z1],0⟩ 1=j1:=aB t1.hj;have hs:s∈kU l a i j0 j1:=by rw[<- e0,<- e1];exact hs
  obtain⟨b1,b2⟩:=hgb i (by simp)
  have tb:j1.b=i:=by
   rcases t1.tie with⟨e,_⟩ |⟨e,_⟩
   ·exact absurd e ha
   ·exact e
  exact⟨Mb tw hN t0 t1 ha b1 b2 hn (BE hli t1.hj (by rw[t1.kd];decide) tb) hs,fun h=>absurd h (by simp)⟩
end
end Go.Lw
namespace Go.Lw
open Lean.Grind (CommRing)
section
variable{R:Type}[CommRing R]
end
section
variable{ts:LL}
end
def pinP(l:Li)(T:LL)(bs:List Pq)(j:Jt)(b:Int):P2 T:=if j.a=b then ba l T bs j.b j.on else ba l T bs j.a j.point
def iK(l:Li)(T:LL)(bs:List Pq)(g:Gr):Et T :=
  if g.kind=0 then qE 1
  else if g.kind=1 then oi (a8 (pinP l T bs (bq l g 1) (ci g 1)) (pinP l T bs (bq l g 0) (ci g 0))) (a8 (eF T (bs.getD (ci g 0).toNat bm) (aj l (bq l g 2) (ci g 0))) (pinP l T bs (bq l g 0) (ci g 0)))
  else if g.kind=2 then jT (a8 (ba l T bs (bq l g 1).b (bq l g 1).to) (ba l T bs (bq l g 1).b (bq l g 1).on)) (a8 (eF T (bs.getD (ci g 0).toNat bm) (aX l (ci g 0) (bq l g 1).point)) (pinP l T bs (bq l g 0) (ci g 0)))
  else jT (a8 (ba l T bs (bq l g 1).b (bq l g 1).to) (ba l T bs (bq l g 1).b (bq l g 1).on)) (a8 (ba l T bs (bq l g 1).a (bq l g 1).point) (pinP l T bs (bq l g 0) (ci g 0)))
theorem Kk(l:Li)(a:As)(j:Jt)(b:Int):aK l a j b=pinP l (llq a.rs) (a9 a) j b:=by
 unfold aK pinP;split
 ·exact lR l a _ _
 ·exact lR l a _ _
theorem VX(a:As)(b:Int)(q:Rat×Rat):kA a b q=eF (llq a.rs) ((a9 a).getD b.toNat bm) q:=by
 have e:(a9 a).getD b.toNat bm=⟨lq (a.bs.getD b.toNat default).c,lq (a.bs.getD b.toNat default).s,lq (a.bs.getD b.toNat default).x,lq (a.bs.getD b.toNat default).y⟩:=by
  unfold a9;rw[getD_eq_getElem?_getD,getD_eq_getElem?_getD,getElem?_map];cases a.bs[b.toNat]? <;> rfl
 rw[e];rfl
theorem Mo(l:Li)(a:As)(g:Gr):iG l a g=iK l (llq a.rs) (a9 a) g:=by
 unfold iG iK cq;simp only[Kk,lR,VX]
section
variable{ts T:LL}(L:Lf ts T)
include L
theorem Lf.pinP{l:Li}{bs bs':List Pq}{j:Jt}(b:Int)(ha:gK bs bs' ts.length j.a)(hb:gK bs bs' ts.length j.b) :
  an L.pos (Lw.pinP l T bs' j b).1=an L.pos (aS T (Lw.pinP l ts bs j b).1)/\an L.pos (Lw.pinP l T bs' j b).2=an L.pos (aS T (Lw.pinP l ts bs j b).2):=by
 unfold Lw.pinP;split
 ·exact L.pt l hb _
 ·exact L.pt l ha _
end
end Go.Lw
namespace Go.Lw
open Lean.Grind (CommRing)
section
variable{R:Type}[CommRing R]
end
section
variable{T:LL}(hp:gQ T){p:Pq}
include hp
end
section
variable{l:Li}{T:LL}{bs:List Pq}{g:Gr}
end
section
variable{l:Li}{T:LL}(hp:gQ T){bs:List Pq}
include hp
end
end Go.Lw
namespace Go.Lw
open Go.Proofs
theorem FL{P:Program}{f:FuncId}{sz:Nat}{r:AV}{H H':Hp}(h:∀(a:Option Addr)(cap:Nat),Con P f [.v (.slice a 0 cap)] H r H'):Con P f [.lst sz []] H r H' :=
 ⟨(h none 0).ok,fun ext m w vs he hr hn hv=>by
  have hn1:vs.size=1:=hn;have h0:=hv 0 vs[0] (.lst sz []) (by simp[hn1]) rfl
  have hy:∃a cap,vs[0]=.slice a 0 cap:=by
   generalize vs[0]=y at h0;cases h0 with
   |lst0 a cap=>exact⟨_,_,rfl⟩
   |lst u hb hc hl hs h1 hu hrr=>exact⟨_,_,rfl⟩
  obtain⟨a,cap,hy⟩:=hy;refine(h a cap).ret ext m w vs he hr hn (fun j v x hv2 hx=>?_)
  match j,hx with
  |0,hx =>
   cases hx;have:v=.slice a 0 cap:=by rw[<- hy];have:=Array.getElem?_eq_some_iff.1 hv2;exact this.2.symm
   subst this;exact .v _⟩
theorem Re(e:AV)(es:List AV)(hc:∀x∈e::es,x.cells.length=1)(hl:(e::es).length<=1000):Con prog 297 [.lst 1 (e::es)] [] (.ms 901 1 0 (e::es).length) [(901,some (.row 1 (e::es)))]:=by
 refine gF func297 (fun k z h=>by cases h) ?_;refine gs (vh (.tmp rfl) (by kernel_rfl) rfl) ?_;refine gC (fun t4=>?_) (fun t4=>?_) (st1:=(2,0));cases t4;refine gs (f0 T39 rfl T3 rfl rfl rfl) ?_;refine gs (bR (.tmp rfl) rfl rfl (.tmp rfl) T39 rfl T3 rfl rfl (by simp only[];omega) rfl rfl) ?_ (77777,0);refine gW (Wk.of (sl:=[(2,some (.ms 7 1 0 (e::es).length))]) (hp:=[(7,some (.row 1 (e::es)))]) (.cons rfl (Sub.of (congrArg (AV.ms 7 1 0) (Nat.zero_add _))) .nil) (.k .nil)) ?_;refine gR ?_;exact aw.own1 rfl rfl rfl
theorem Wp(a:Option Addr)(cap:Nat):Con prog 297 [.v (.slice a 0 cap)] [] (.ms 901 1 0 0) [(901,some (.row 1 []))]:=by
 refine gF func297 (fun k z h=>by cases h) ?_;refine gs (uP (.tmp rfl) (by kernel_rfl) rfl) ?_;refine gC (fun t4=>?_) (fun t4=>?_) (st1:=(2,0)) (st2:=(77777,0))
 ·refine gW ((Wk.virt 901 1 rfl).trans<|Wk.o (sl:=[]) (hp:=[(901,some (.row 1 []))])) ?_;refine gR ?_;exact(aw.keep (bc rfl)).sub (Sub.nM _ _ _)
 refine gW (Wk.of (sl:=[(0,some (.lst 1 []))]) (hp:=[]) (.cons rfl (Sub.nil _ _ _) .nil) .nil) ?_;refine gs (f0 T39 rfl T3 rfl rfl rfl) ?_;refine gs (bR (.tmp rfl) rfl rfl (.tmp rfl) T39 rfl T3 rfl rfl (by simp) rfl rfl) ?_ (77777,0);refine gW (Wk.o (sl:=[(2,some (.ms 7 1 0 0))]) (hp:=[(7,some (.row 1 []))])) ?_;refine gR ?_;exact aw.own1 rfl rfl rfl
theorem R7(e:AV)(es:List AV)(hc:∀x∈e::es,x.cells.length=4)(hl:(e::es).length<=1000):Con prog 299 [.lst 4 (e::es)] [] (.ms 900 4 0 (e::es).length) [(900,some (.row 4 (e::es)))]:=by
 refine gF func299 (fun k z h=>by cases h) ?_;refine gs (vh (.tmp rfl) (by kernel_rfl) rfl) ?_;refine gC (fun t4=>?_) (fun t4=>?_) (st1:=(2,0));cases t4;refine gs (f0 T38 rfl T69 rfl rfl rfl) ?_;refine gs (bR (.tmp rfl) rfl rfl (.tmp rfl) T38 rfl T69 rfl rfl (by simp only[];omega) rfl rfl) ?_ (77777,0);refine gW (Wk.of (sl:=[(2,some (.ms 7 4 0 (e::es).length))]) (hp:=[(7,some (.row 4 (e::es)))]) (.cons rfl (Sub.of (congrArg (AV.ms 7 4 0) (Nat.zero_add _))) .nil) (.k .nil)) ?_;refine gR ?_;exact aw.own1 rfl rfl rfl
theorem Nn(a:Option Addr)(cap:Nat):Con prog 299 [.v (.slice a 0 cap)] [] (.ms 900 4 0 0) [(900,some (.row 4 []))]:=by
 refine gF func299 (fun k z h=>by cases h) ?_;refine gs (uP (.tmp rfl) (by kernel_rfl) rfl) ?_;refine gC (fun t4=>?_) (fun t4=>?_) (st1:=(2,0)) (st2:=(77777,0))
 ·refine gW ((Wk.virt 900 4 rfl).trans<|Wk.o (sl:=[]) (hp:=[(900,some (.row 4 []))])) ?_;refine gR ?_;exact(aw.keep (bc rfl)).sub (Sub.nM _ _ _)
 refine gW (Wk.of (sl:=[(0,some (.lst 4 []))]) (hp:=[]) (.cons rfl (Sub.nil _ _ _) .nil) .nil) ?_;refine gs (f0 T38 rfl T69 rfl rfl rfl) ?_;refine gs (bR (.tmp rfl) rfl rfl (.tmp rfl) T38 rfl T69 rfl rfl (by simp) rfl rfl) ?_ (77777,0);refine gW (Wk.o (sl:=[(2,some (.ms 7 4 0 0))]) (hp:=[(7,some (.row 4 []))])) ?_;refine gR ?_;exact aw.own1 rfl rfl rfl
theorem Cv(es:List AV)(hc:∀x∈es,x.cells.length=1)(hl:es.length<=1000):Con prog 297 [.lst 1 es] [] (.ms 901 1 0 es.length) [(901,some (.row 1 es))]:=by
 cases es with
 |nil=>exact FL Wp
 |cons e es=>exact Re e es hc hl
theorem MH(es:List AV)(hc:∀x∈es,x.cells.length=4)(hl:es.length<=1000):Con prog 299 [.lst 4 es] [] (.ms 900 4 0 es.length) [(900,some (.row 4 es))]:=by
 cases es with
 |nil=>exact FL Nn
 |cons e es=>exact R7 e es hc hl
theorem LZ(es:List AV)(hc:∀x∈es,x.cells.length=1)(hl:es.length<=1000):FP 297 [.lst 1 es] (.lst 1 es):=by
 have h:=Con.freeze oz (Cv es hc hl)
 rwa [drop_zero,take_length]at h
theorem Ik(ms:List Int):∀x∈ms.map i64,x.cells.length=1:=fun x hx=>by obtain⟨m,_,rfl⟩:=List.mem_map.1 hx;rfl
theorem PA(bs:List Pq):∀x∈bs.map Pq.av,x.cells.length=4:=fun x hx=>by obtain⟨m,_,rfl⟩:=List.mem_map.1 hx;rfl
theorem sk{n e:Nat}{x:List Rat}(h:Nm n e x)(he:e<=100000000000):FP 298 [nA x] (nA x):=by
 have hlen:=h.nl.len5 h.five;have hqs:∀q∈x,Qs q:=fun q hq=>h.cb.qs oz hq
 refine ah func298 ?_;refine gl ?_;refine gW (Wk.virt 901 3 rfl) ?_;refine aJ [6,7] [] (fun(j:Nat)=>[(3,some (.ms 901 3 0 j)),(8,some (i64 j))]) (fun j=>[(901,some (.row 3 ((x.take j).map qA)))]) (fun j=>j<=x.length) (fun j=>x.length-j) 0 (zero_le _) ?_ (h1:=(.cons rfl (Sub.nM _ _ _) (.k .nil)));rintro j hj K1 J1;refine gC (fun t9=>?_) (fun t9=>?_) (st2:=(7,0))
 ·have hjn:=aT t9;obtain⟨q,hq⟩:=aq hjn;have hadd:=mN (rt q) (rt 0) (hqs q (mem_of_getElem? hq)).ok Qs.zero.ok;rw[pK,bM]at hadd;refine gi (au hq) ?_;refine gc (Con.sA (.cons (.refl _) (.cons iH .nil)) hadd) ?_;refine gs (bR (.tmp rfl) rfl (by rw[length_map,length_take];omega) (.tmp rfl) T67 rfl T45 rfl rfl (by simp only[length_cons,length_nil];omega) rfl rfl) ?_ (6,0);refine gW (Wk.of (sl:=[(6,some (nA x)),(7,some (i64 x.length)),(8,some (i64 j)),(3,some (.ms 17 3 0 (j+1)))]) (hp:=[(17,some (.row 3 ((x.take (j+1)).map qA)))]) aQ (.cons rfl (BlkSub.of (by rw[cS hq,map_append];rfl)) .nil)) ?_ (6,0);refine gW (Wk.rk (k:=17) (d:=901) rfl rfl) ?_;refine ga aE ?_;exact aD J1 (j+1) hjn
 have hjn:=a5 hj t9;subst hjn;refine gW ((Wk.freeze (k:=901) rfl).trans<|Wk.of (sl:=[(3,some (nA x))]) (hp:=[]) (.cons rfl (Sub.of (by rw[bI (by simp)];simp[nA])) .nil) .nil) ?_;refine af ?_;rfl
theorem VQ{a:Aq}{n e:Nat}(h5:n<=5)(ht:∀x∈a.ts,Nm n e x)(hb:∀p∈a.bs,Pq.ok n e p)(he:e<=100000000000)(l1:a.ts.length<=100)(l2:a.bs.length<=100)(l3:a.ms.length<=100):FP 199 [a.av] a.av:=by
 refine ah func199 ?_;refine gc (LZ _ (Ik _) (by rw[length_map];omega)) ?_;refine gl ?_;refine gW (Wk.virt 900 1 rfl) ?_;refine aJ [1,2,3,14,15] [1,2] (fun(i:Nat)=>[(16,some (i64 i))]) (fun i=>[(3,some (.box [.ms 900 1 0 i,nS,.lst 1 (a.ms.map i64)])),(900,some (.row 1 ((a.ts.take i).map nA)))]) (fun i=>i<=a.ts.length) (fun i=>a.ts.length-i) 0 (zero_le _) ?_ (h2:=(.cons rfl (BlkSub.bL (.cons (.nM _ _ _) (.cons (.refl _) (.cons (.refl _) .nil))) rfl) (.k .nil)));rintro i hi K1 J1;refine gC (fun t17=>?_) (fun t17=>?_) (st2:=(7,0))
 ·have hin:=aT t17;obtain ⟨d,hd⟩:=aq hin;refine gi (au hd) ?_;refine gc (sk (ht d (mem_of_getElem? hd)) he) ?_;refine gs (bR (.tmp rfl) rfl (by rw [length_map,length_take]; omega) (.tmp rfl) T35 rfl T67 rfl rfl (by simp only [length_cons,length_nil]; omega) rfl rfl) ?_;refine gD ?_ (6,0);refine gW (Wk.of (sl:=[(1,some (.ptr 1 0)),(2,some (.ptr 2 0)),(3,some (.ptr 3 0)),(14,some (.lst 1 (a.ts.map nA))),(15,some (i64 a.ts.length)),(16,some (i64 i))]) (hp:=[(1,some (.box a.cs)),(2,some (.box [nS,nS,nS])),(3,some (.box [.ms 26 1 0 (i + 1),nS,.lst 1 (a.ms.map i64)])),(26,some (.row 1 ((a.ts.take (i + 1)).map nA)))]) aQ (.k (.k (.k (.cons rfl (BlkSub.of (by rw [cS hd,map_append]; rfl)) .nil))))) ?_ (6,0)
  refine gW (Wk.rk (k:=26) (d:=900) rfl rfl) ?_;refine ga aE ?_;exact aD J1 (i+1) hin
 have hin:=a5 hi t17;subst hin;refine gW ((Wk.freeze (k:=900) rfl).trans<|Wk.of (sl:=[(1,some (.ptr 1 0)),(2,some (.ptr 2 0)),(3,some (.ptr 3 0))]) (hp:=[(1,some (.box a.cs)),(2,some (.box [nS,nS,nS])),(3,some (.box [.lst 1 (a.ts.map nA),nS,.lst 1 (a.ms.map i64)]))]) aQ (.k (.k (.cons rfl (BlkSub.bL (.cons (Sub.of (by rw[bI (by simp)];simp)) (.cons (.refl _) (.cons (.refl _) .nil))) rfl) .nil)))) ?_;refine gl ?_;refine gW (Wk.virt 902 4 rfl) ?_;refine aJ [1,2,3,31,32] [1,2] (fun(i:Nat)=>[(33,some (i64 i))]) (fun i=>[(3,some (.box [.lst 1 (a.ts.map nA),.ms 902 4 0 i,.lst 1 (a.ms.map i64)])),(902,some (.row 4 ((a.bs.take i).map Pq.av)))]) (fun i=>i<=a.bs.length) (fun i=>a.bs.length-i) 0 (zero_le _) ?_ (h2:=(.cons rfl (BlkSub.bL (.cons (.refl _) (.cons (.nM _ _ _) (.cons (.refl _) .nil))) rfl) (.k .nil)));rintro i hi K2 J2;refine gC (fun t34=>?_) (fun t34=>?_) (st2:=(12,0))
 ·have hin:=aT t34;obtain ⟨p,hp⟩:=aq hin;have ok:=hb p (mem_of_getElem? hp);refine gi (au hp) ?_;refine gc (sk ok.c he) ?_;refine gc (sk ok.s he) ?_;refine gc (sk ok.x he) ?_;refine gc (sk ok.y he) ?_;refine gs (bR (.tmp rfl) rfl (by rw [length_map,length_take]; omega) (.tmp rfl) T38 rfl T69 rfl rfl (by simp only [length_cons,length_nil]; omega) rfl rfl) ?_;refine gD ?_ (11,0);refine gW (Wk.of (sl:=[(1,some (.ptr 1 0)),(2,some (.ptr 2 0)),(3,some (.ptr 3 0)),(31,some (.lst 4 (a.bs.map Pq.av))),(32,some (i64 a.bs.length)),(33,some (i64 i))]) (hp:=[(1,some (.box a.cs)),(2,some (.box [nS,nS,nS])),(3,some (.box [.lst 1 (a.ts.map nA),.ms 53 4 0 (i + 1),.lst 1 (a.ms.map i64)])),(53,some (.row 4 ((a.bs.take (i + 1)).map Pq.av)))]) aQ (.k (.k (.k (.cons rfl (BlkSub.of (by rw [cS hp,map_append]; rfl)) .nil))))) ?_ (11,0)
  refine gW (Wk.rk (k:=53) (d:=902) rfl rfl) ?_;refine ga aE ?_;exact aD J2 (i+1) hin
 have hin:=a5 hi t34;subst hin;refine gW ((Wk.freeze (k:=902) rfl).trans<|Wk.of (sl:=[(2,some (.ptr 2 0)),(3,some (.ptr 3 0))]) (hp:=[(2,some (.box [nS,nS,nS])),(3,some (.box a.cs))]) aQ (.k (.cons rfl (BlkSub.bL (.cons (.refl _) (.cons (Sub.of (by rw[bI (by simp)];simp)) (.cons (.refl _) .nil))) rfl) .nil))) ?_;refine af ?_;rfl
theorem RV{a:Aq}{g:Gr}{s:Sv}(hb:∀b∈g.bo,0<=b/\b<a.bs.length)(hl:s.ps.length=g.bo.length)(l1:a.bs.length<=100)(l2:a.ms.length<=100)(l3:g.bo.length<=100):FP 201 [a.av,g.av,s.av] (a.nxt g s).av:=by
 refine ah func201 ?_;refine gt (aA (MH _ (PA _) (by rw[length_map];omega)) (cr rfl) aC rfl rfl) ?_;refine gt (aA (Cv _ (Ik _) (by rw[length_map];omega)) (cr rfl) aC rfl rfl) ?_;refine gs (bR (.tmp rfl) rfl rfl (.tmp rfl) T39 rfl T3 rfl rfl (by simp only[length_map,length_cons,length_nil];omega) rfl rfl) ?_;refine gD ?_ (2,0);refine gW ((Wk.freeze (k:=21) rfl).trans<|Wk.of (sl:=[(3,some (.ptr 3 0)),(4,some (.ptr 4 0)),(5,some (.ptr 5 0)),(6,some (.ptr 6 0)),(7,some (.ptr 7 0))]) (hp:=[(3,some (.box a.cs)),(4,some (.box g.av.cells)),(5,some (.box s.av.cells)),(6,some (.box [nS,nS,nS])),(7,some (.box [.lst 1 (s.ts.map nA),.ms 900 4 0 a.bs.length,.lst 1 ((a.ms++[s.mode]).map i64)])),(900,some (.row 4 ((bO a.bs (g.bo.take 0) (s.ps.take 0)).map Pq.av)))]) aQ (.k (.k (.k (.k (.cons rfl (BlkSub.bL (.cons (.refl _) (.cons (Sub.of (congrArg (AV.ms 900 4 0) (length_map _))) (.cons (Sub.of (by rw[bI (by simp)];simp)) .nil))) rfl) (.k .nil))))))) ?_
 refine gl ?_;refine aJ [3,4,5,6,7,24,25] [3,4,5,6,7] (fun(i:Nat)=>[(26,some (i64 i))]) (fun i=>[(900,some (.row 4 ((bO a.bs (g.bo.take i) (s.ps.take i)).map Pq.av)))]) (fun i=>i<=g.bo.length) (fun i=>g.bo.length-i) 0 (zero_le _) ?_;rintro i hi K1 J1;refine gC (fun t27=>?_) (fun t27=>?_) (st2:=(7,0))
 ·have hin:=aT t27;obtain⟨b,hbi⟩:=aq hin;obtain⟨p,hp⟩:=aq (l:=s.ps) (i:=i) oz;obtain⟨hb0,hb1⟩:=hb b (mem_of_getElem? hbi);have hpl:=wh a.bs (g.bo.take i) (s.ps.take i);obtain⟨o,ho⟩:=aq (l:=bO a.bs (g.bo.take i) (s.ps.take i)) (i:=b.toNat) oz;refine gi (au hbi) ?_;refine gi (au hp) ?_;refine gs (l9 (.tmp rfl) (.tmp rfl) T38 rfl T69 rfl oz oz rfl) ?_;refine gs (dw (.tmp rfl) rfl (by rw[Nat.zero_add,getElem?_map,ho];rfl) rfl (.tmp rfl) rfl rfl T69 rfl rfl) ?_;refine gD ?_;refine ga aE ?_;exact aD J1 (i+1) hin (hw:=Wk.of aQ (.cons rfl (BlkSub.of (by rw[MY hbi hp,map_set,Nat.zero_add];rfl)) (.k (.k (.k (.k (.k .nil)))))))
 have hin:=a5 hi t27;subst hin;refine gW ((Wk.freeze (k:=900) rfl).trans<|Wk.of (sl:=[(6,some (.ptr 6 0)),(7,some (.ptr 7 0))]) (hp:=[(6,some (.box [nS,nS,nS])),(7,some (.box (a.nxt g s).cs))]) aQ (.k (.cons rfl (BlkSub.bL (.cons (.refl _) (.cons (Sub.of (by rw[bI (by rw[length_map,wh])];rw[take_length,take_of_length_le oz];rfl)) (.cons (.refl _) .nil))) rfl) .nil))) ?_;refine af ?_;rfl
abbrev fi(l:Li)(xs:List Tn)(G:List Gr)(fo:FuncId)(caps:List AV)(sg:Bool)(o:AV):List AV:=l.av.cells++[.lst 4 (xs.map Tn.av),.lst 4 (G.map Gr.av),.cl fo [] caps,bl sg,o]
abbrev e8(l:Li)(xs:List Tn)(G:List Gr)(fo:FuncId)(caps:List AV)(sg:Bool)(k:Nat)(es:List AV):Hp :=
  [(1000,some (.box (fi l xs G fo caps sg (.ms k 3 0 es.length)))),(k,some (.row 3 es))]
theorem v8{k k0:Nat}{x y:Option Blk}{z:Blk}(h0:1000<=k0)(h:lk [(1000,x),(k0,y)] k=some z):1000<=k:=by
 rw[aM]at h;split at h
 ·omega
 ·rw[aM]at h;split at h
  ·omega
  ·cases h
theorem Qi{l:Li}{xs:List Tn}{G:List Gr}{fo:FuncId}{caps:List AV}{sg:Bool}{es:List AV}{g:Gr}(hd:g.kind=0->0<=g.driver/\g.driver<xs.length)(hl:xs.length<=100) :
  Con prog 200 [.ptr 1000 0,g.av] (e8 l xs G fo caps sg 1001 es) (co g xs).av (e8 l xs G fo caps sg 1001 es):=by
 refine gF func200 (fun k z h=>v8 oz h) ?_;refine gC (fun t7=>?_) (fun t7=>?_)
 ·have hk : g.kind ≠ 0 := by simpa [aa] using t7
  refine gR ?_;exact(aw.keep (lN rfl rfl)).sub (by unfold co;rw[if_neg hk];exact Sub.agg (.cons (.refl _) (.cons (Sub.nil _ _ _) (.cons (Sub.nil _ _ _) (.cons (.refl _) .nil)))) rfl)
 have hk:g.kind=0:=by simpa[aa]using t7
 obtain⟨h0,h1⟩:=hd hk;obtain⟨x,hx⟩:=aq (l:=xs) (i:=g.driver.toNat) oz;refine gi (f9 (n:=g.driver.toNat) oz hx) ?_;refine gD ?_;refine gR ?_;exact(aw.keep (lN rfl rfl)).sub (by unfold co;rw[if_pos hk,aB hx];exact .refl _)
theorem Pp:jW (.agg [nS,nS,nS,nS]) bm.av:=by
 refine⟨rfl,?_⟩;intro j x y hx hy
 match j,hx,hy with
 |0,hx,hy=>cases hx;cases hy;exact⟨rfl,.nil _ _ _⟩
 |1,hx,hy=>cases hx;cases hy;exact⟨rfl,.nil _ _ _⟩
 |2,hx,hy=>cases hx;cases hy;exact⟨rfl,.nil _ _ _⟩
 |3,hx,hy=>cases hx;cases hy;exact⟨rfl,.nil _ _ _⟩
theorem QW(n:Nat):BlkSub (.row 4 (List.replicate n (.agg [nS,nS,nS,nS]))) (.row 4 ((List.replicate n bm).map Pq.av)):=by
 refine .row (by simp) ?_;intro i e e' he he';rw[map_replicate,getElem?_replicate]at he';rw[getElem?_replicate]at he;split at he
 ·rename_i h;rw[if_pos h]at he';cases he;cases he'
  exact Pp
 ·cases he
theorem KV:iu.av=.agg [nA (sh 0 (((1:Int):Rat):Rat)),nA [],nA [],nA []]:=by
 have h:sh 0 (((1:Int):Rat):Rat)=[1]:=by decide +kernel
 rw[h];rfl
theorem P8{l:Li}{xs:List Tn}{G:List Gr}{fo:FuncId}{caps:List AV}{sg:Bool}{es:List AV}(h0:0<l.bo.length)(hl:l.bo.length<=100) :
  Con prog 101 [.ptr 1000 0] (e8 l xs G fo caps sg 1001 es) (eD l).av (e8 l xs G fo caps sg 1001 es):=by
 refine gF func101 (fun k z h=>v8 oz h) ?_;refine gl ?_;refine gs (gO (.tmp rfl) T38 rfl T69 rfl rfl oz (by dsimp only;omega) rfl) ?_ (2,0);refine gW (Wk.of (sl:=[(2,some (.ptr 2 0)),(3,some (.ptr 3 0))]) (hp:=[(2,some (.box [nS,nS,nS])),(3,some (.box [nS,.ms 10 4 0 l.bo.length,nS])),(10,some (.row 4 ((List.replicate l.bo.length bm).map Pq.av))),(1000,some (.box (fi l xs G fo caps sg (.ms 1001 3 0 es.length)))),(1001,some (.row 3 es))]) aQ (.k (.k (.cons rfl (QW _) (.k (.k .nil)))))) ?_;refine gc (kF 1 oz) ?_;refine gc (mj (q:=((1:Int):Rat)) (Qb.one.qs oz)) ?_;refine gs (bT (n:=0) (.tmp rfl) (.const _) T38 rfl T69 rfl oz oz rfl) ?_ (2,7);refine gs (Hg (e:=bm.av) (e':=.agg [nA (sh 0 (((1:Int):Rat):Rat)),nA [],nA [],nA []]) (.tmp rfl) rfl (by rw[getElem?_map,getElem?_replicate,if_pos h0];rfl) (.tmp rfl) rfl rfl T67 rfl rfl rfl) ?_;refine gD ?_ (3,0);refine gW ((Wk.freeze (k:=10) rfl).trans<|Wk.of (sl:=[(2,some (.ptr 2 0)),(3,some (.ptr 3 0))]) (hp:=[(2,some (.box [nS,nS,nS])),(3,some (.box [nS,.lst 4 ((eD l).bs.map Pq.av),nS])),(1000,some (.box (fi l xs G fo caps sg (.ms 1001 3 0 es.length)))),(1001,some (.row 3 es))]) aQ (.k (.cons rfl (BlkSub.bL (.cons (.refl _) (.cons (Sub.of (by rw[bI (by simp)];unfold eD;rw[map_set,KV])) (.cons (.refl _) .nil))) rfl) (.k (.k .nil))))) ?_
 refine gR ?_;exact(aw.keep (lN rfl rfl)).sub (Sub.agg (.cons (Sub.nil _ _ _) (.cons (.refl _) (.cons (Sub.nil _ _ _) .nil))) rfl)
theorem Rm(k m:Int):FP 198 [i64 k,i64 m] (bl true):=by
 refine ah func198 ?_;refine af ?_;rfl
theorem Pv{modes:List Int}{k:Nat}(hk:k<modes.length)(hl:modes.length<=100)(m:Int):FP 223 [i64 k,i64 m,.iptr [.lst 1 (modes.map i64)]] (bl (decide (m=modes.getD k 0))):=by
 obtain⟨x,hx⟩:=aq hk;refine ah func223 ?_;refine gi (au hx) ?_;refine gR ?_;exact dp (Sub.of (by rw[aB hx,oN];rfl))
def sT(l:Li)(xs:List Tn):Nat:=if splitE l≠0 then splitE l else if xs.length≠l.dv.length then 10 else eg (xs.map Tn.err)
def cM(l:Li)(xs:List Tn):Nat:=if ax l≠0 then ax l else sT l xs
def tp(e:Nat)(l:Li)(xs:List Tn):Hp:=if e=0 then[(900,some (.box (fi l xs (splitG l) 198 [] false (nS))))]else[]
theorem uQ{e:Nat}(h:e≠0){l:Li}{xs:List Tn}:tp e l xs=[]:=if_neg h
theorem KC{l:Li}{xs:List Tn}{e:Nat}(he:(if ax l=0 then splitE l else ax l)=e)(h:e≠0):cM l xs=e:=by
 unfold cM sT
 by_cases h1:ax l=0
 ·rw[if_pos h1]at he;rw[if_neg oz,if_pos oz,he]
 ·rw[if_neg h1]at he;rw[if_pos h1,he]
theorem Fg{l:Li}{xs:List Tn}(h:ax l=0)(hs:splitE l=0):cM l xs=if xs.length≠l.dv.length then 10 else eg (xs.map Tn.err):=by
 unfold cM sT;rw[if_neg oz,if_neg oz]
theorem GG(l:Li)(hl:l.ok)(xs:List Tn)(hx:∀x∈xs,x.t.ok)(hn:xs.length<=100) :
  Con prog 99 [l.av,.lst 4 (xs.map Tn.av)] [] (.tup [qH (cM l xs),bh (cM l xs)]) (tp (cM l xs) l xs):=by
 have hld:=hl.ld;refine gF func99 (fun k z h=>by cases h) ?_;refine gc (AW l hl) ?_;refine gC (fun t17=>?_) (fun t17=>?_)
 ·have h1:=cT t17;refine gR ?_;rw[KC rfl h1,lc h1,uQ h1];exact kD rfl
 have h1:=da t17;obtain⟨hli,hsp⟩:=H2 h1;rw[show(if ax l=0 then splitG l else[])=splitG l from if_pos hli];refine gl ?_;refine gl ?_;refine gC (fun t24=>?_) (fun t24=>?_)
 ·have h2:=vQ t24;have he:cM l xs = 10:=by rw [Fg hli hsp,if_pos h2]
  refine gR ?_;rw[he,lc (by decide),uQ (by decide)];exact kD rfl
 have h2:=AK t24;have he0:cM l xs=eg (xs.map Tn.err):=by rw[Fg hli hsp,if_neg oz]
 refine gl ?_;refine aJ [1,2,6,26,27] [2] (fun(i:Nat)=>[(28,some (i64 i))]) (fun _=>[]) (fun i=>i<=xs.length/\∀y∈xs.take i,y.err=0) (fun i=>xs.length-i) 0 ⟨zero_le _,fun y hy=>by simp at hy⟩ ?_;rintro i ⟨hi,hz⟩ K1 J1;refine gC (fun t29=>?_) (fun t29=>?_) (st2:=(13,0))
 ·have hin:=aT t29;obtain⟨x,hxi⟩:=aq hin;refine gi (au hxi) ?_;refine gc (uL x (hx x (mem_of_getElem? hxi))) ?_;refine gC (fun t35=>?_) (fun t35=>?_)
  ·have h3:=cT t35;have he:cM l xs = x.err:=by rw [he0]; exact GH hxi hz h3
   refine gR ?_;rw[he,lc h3,uQ h3];exact kD rfl
  have h3:=da t35;refine ga aE ?_;exact aD J1 (i+1) ⟨hin,fun z hz2=>by rw[cS hxi]at hz2;rcases List.mem_append.1 hz2 with h9 |h9;exact hz z h9;(rw[List.mem_singleton.1 h9];exact h3)⟩
 have hin:=a5 hi t29;have he:cM l xs=0:=by rw[he0];exact oh (fun y hy=>hz y (by rw[hin,take_length];exact hy))
 refine gW (Wk.o (sl:=[(1,some (.lst 4 (xs.map Tn.av))),(2,some (.ptr 2 0)),(6,some (.lst 4 ((splitG l).map Gr.av)))]) (hp:=[(2,some (.box l.av.cells))])) ?_ (77777,0);refine gW (Wk.of (sl:=[(4,some (.ptr 42 0)),(5,some (.v .nilIface))]) (hp:=[(42,some (.box (fi l xs (splitG l) 198 [] false (nS))))]) aQ (.cons rfl (BlkSub.bL (.cons (.refl _) (.cons (.refl _) (.cons (.refl _) (.cons (.refl _) (.cons (.refl _) (.cons (.refl _) (.cons ((Sub.fn0 _).trans (tc rfl)) (.cons (.refl _) (.cons (.refl _) .nil))))))))) rfl) .nil)) ?_ (77777,0);refine gW (Wk.rk (k:=42) (d:=900) rfl rfl) ?_;refine gR ?_;rw[he];exact aw.keep (bc rfl)
section
variable{P:Program}{N:Nat}{R:Array Oper}{s:AS}{pos:String}{after:Array Edge}
theorem x9{d f k k2:Nat}{bx bx2:Blk}{args:Array Operand}{ts:Array TypeId}{xs:List AV}{r:AV}{t:TypeId}
  (hcon:Con P f xs [(k,some bx),(k2,some bx2)] r [(k,some bx),(k2,some bx2)]) (ha:EvL s args.toList xs) (hne:Nat.beq k2 k=false) (hk:s.blk k=some bx) (hk2:s.blk k2=some bx2)
  (hok:iL s [(k,some bx),(k2,some bx2)] [(k,some bx),(k2,some bx2)] r=true) (hN:Nat.blt d N=true) :
  Step P N R s ⟨some d,.call ⟨.value (.func f),args,ts⟩,t,pos,after,none⟩ ⟨some r,[],ek args.toList,[k,k2]⟩:=by
 have hne':k2≠k:=fun e=>by rw[e,Nat.beq_refl]at hne;cases hne
 refine Step.weaken (aA (d:=d) hcon ha (fun k' z h=>by
  rcases nF h with⟨rfl,h9⟩ |⟨_,rfl,h9⟩
  ·cases h9;exact hk
  ·cases h9;exact hk2) hok hN) (fun s' h=>h) (fun s' h k' hk'=>?_) (fun s' h=>?_)
 ·left;simp only[map_append,db,map_cons,map_nil,mem_append,mem_cons,not_mem_nil,or_false]at hk' ⊢;rcases hk' with h9 |h9 <;> exact h9
 ·intro C m a w hr;refine ⟨m,hr.weak (fun t x hx=>⟨x,hx,.refl _⟩) (fun k' x hx=>⟨x,?_,.refl _⟩)⟩;have hb:lk s'.hp k = some bx:=(h.2 k (by simp)).trans hk;have hb2:lk s'.hp k2 = some bx2:=(h.2 k2 (by simp)).trans hk2;show lk ([(k,some bx),(k2,some bx2)] ++ db [(k,some bx),(k2,some bx2)] ++ s'.hp) k' = some x;have hx':lk s'.hp k' = some x:=hx;simp only [db,map_cons,map_nil,List.cons_append,nil_append,aM]
  by_cases e:k'=k
  ·rw[if_pos e];rw[e,hb]at hx';exact hx'
  ·rw[if_neg e]
   by_cases e2:k'=k2
   ·rw[if_pos e2];rw[e2,hb2]at hx';exact hx'
   ·rw[if_neg e2,if_neg e,if_neg e2];exact hx'
end
def pX(k:Nat):Nat:=bif Nat.beq k 1001 then 901 else bif Nat.beq k 901 then 1001 else k
theorem Mq(k:Nat):pX (pX k)=k:=by
 by_cases h1:k=1001
 ·subst h1;rfl
 ·by_cases h2:k=901
  ·subst h2;rfl
  ·have nb:∀{a b:Nat},a≠b->Nat.beq a b=false:=fun h=>by
    cases h9:Nat.beq _ _ with
    |false=>rfl
    |true=>exact absurd (eq_of_beq_eq_true h9) h
   have e:pX k=k:=by simp only[pX,nb h1,nb h2,cond_false]
   rw[e,e]
theorem M8{l:Li}{xs:List Tn}{G:List Gr}{fo:FuncId}{caps:List AV}{sg:Bool}{es es':List AV}{a:Aq}{e:Nat}
  (h:Con prog 100 [.ptr 1000 0,a.av] (e8 l xs G fo caps sg 1001 es) (bh e) (e8 l xs G fo caps sg 900 es')) :
  Con prog 100 [.ptr 1000 0,a.av] (e8 l xs G fo caps sg 901 es) (bh e) (e8 l xs G fo caps sg 900 es') :=
 Con.pm Mq h
theorem Mc{l:Li}{xs:List Tn}{G:List Gr}{fo:FuncId}{caps:List AV}{sg:Bool}{o:List Aq}{a:Aq}(hk:a.ms.length=G.length)(hG:G.length<=100)(ho:o.length<=1000)
  (hcl:FP 199 [a.av] a.av) :
  Con prog 100 [.ptr 1000 0,a.av] (e8 l xs G fo caps sg 1001 (o.map Aq.av)) (bh 0) (e8 l xs G fo caps sg 900 ((o++[a]).map Aq.av)):=by
 refine gF func100 (fun k z h=>v8 oz h) ?_;refine gl ?_;refine gl ?_;refine gC (fun t21=>?_) (fun t21=>?_) (st2:=(77777,0))
 ·refine gc hcl ?_;refine gs (bR (.tmp rfl) rfl (by rw [length_map]) (.tmp rfl) T85 rfl T41 rfl rfl (by simp only [length_map,length_cons,length_nil]; omega) rfl rfl) ?_;refine gD ?_ (4,0);refine gW (Wk.of (sl:=[(4,some (.v .nilIface))]) (hp:=[(1000,some (.box (fi l xs G fo caps sg (.ms 30 3 0 ((o ++ [a]).map Aq.av).length)))),(30,some (.row 3 ((o ++ [a]).map Aq.av)))]) aQ (.cons rfl (BlkSub.bL (.cons (.refl _) (.cons (.refl _) (.cons (.refl _) (.cons (.refl _) (.cons (.refl _) (.cons (.refl _) (.cons (.refl _) (.cons (.refl _) (.cons (Sub.of (by simp)) .nil))))))))) rfl) (.cons rfl (BlkSub.of (by rw [map_append]; rfl)) .nil))) ?_ (4,0)
  refine gW (Wk.rk (k:=30) (d:=900) rfl rfl) ?_;refine gR ?_;exact aw.keep (lN rfl rfl)
 exact absurd t21 (by rw[hk];simp[aa])
theorem pV(F:Int->Bool)(sg:Bool)(f:Sv->List Aq×Nat)(s:Sv)(r:List Sv) :
  ff F sg f (s::r)=if F s.mode=false then ff F sg f r else if(f s).2≠0 then f s else if sg=true then f s else((f s).1++(ff F sg f r).1,(ff F sg f r).2):=rfl
theorem tP{α:Type}{l:List α}{i:Nat}{x:α}(h:l[i]?=some x):l.drop i=x::l.drop (i+1):=by
 obtain⟨hi,e⟩:=List.getElem?_eq_some_iff.1 h;rw[List.drop_eq_getElem_cons hi,e]
def qW(F:Int->Bool)(sg:Bool)(f:Sv->List Aq×Nat)(S:List Sv)(i:Nat)(c:List Aq):Prop :=
  i<=S.length/\ff F sg f S=(c++(ff F sg f (S.drop i)).1,(ff F sg f (S.drop i)).2)
theorem Wu(F:Int->Bool)(sg:Bool)(f:Sv->List Aq×Nat)(S:List Sv):qW F sg f S 0 []:=⟨zero_le _,rfl⟩
section
variable{F:Int->Bool}{sg:Bool}{f:Sv->List Aq×Nat}{S:List Sv}{i:Nat}{c:List Aq}(h:qW F sg f S i c){s:Sv}(hs:S[i]?=some s)
include h hs
theorem RY(hF:F s.mode=false):qW F sg f S (i+1) c:=by
 have h2:=h.2;rw[tP hs,pV,if_pos hF]at h2;exact⟨(List.getElem?_eq_some_iff.1 hs).1,h2⟩
theorem Oc(hF:F s.mode=true)(he:(f s).2≠0):ff F sg f S=(c++(f s).1,(f s).2):=by
 have h2:=h.2;rw[tP hs,pV,if_neg (by rw[hF];simp),if_pos he]at h2;exact h2
theorem S7(hF:F s.mode=true)(he:(f s).2=0)(h1:sg=true):ff F sg f S=(c++(f s).1,0):=by
 have h2:=h.2;rw[tP hs,pV,if_neg (by rw[hF];simp),if_neg oz,if_pos h1,he]at h2;exact h2
theorem Vv(hF:F s.mode=true)(he:(f s).2=0)(h1:sg=false):qW F sg f S (i+1) (c++(f s).1):=by
 have h2:=h.2;rw[tP hs,pV,if_neg (by rw[hF];simp),if_neg oz,if_neg (by rw[h1];simp)]at h2;exact⟨(List.getElem?_eq_some_iff.1 hs).1,by rw[h2,append_assoc]⟩
end
theorem JR{F:Int->Bool}{sg:Bool}{f:Sv->List Aq×Nat}{S:List Sv}{c:List Aq}(h:qW F sg f S S.length c):ff F sg f S=(c,0):=by
 have h2:=h.2;rw[List.drop_length]at h2;rw[h2];simp[ff]
theorem Mg{l:Li}{xs:List Tn}{G:List Gr}{fo:FuncId}{caps:List AV}{sg:Bool}{o:List Aq}{a:Aq}{g:Gr}(hg:G[a.ms.length]?=some g)(hG:G.length<=100)(hx:xs.length<=100)(hd:g.kind=0->0<=g.driver/\g.driver<xs.length)
  {S:List Sv} {E:Nat} (hS:FP 18 [l.av,i64 a.ms.length,(co g xs).av,a.av] (.tup [.lst 3 (S.map Sv.av),bh E])) (hSl:S.length<=100)
  {F:Int->Bool} (hF:∀m,FP fo ([i64 a.ms.length,i64 m]++caps) (bl (F m)))
  (hb:∀s∈S,FP 201 [a.av,g.av,s.av] (a.nxt g s).av)
  {f:Sv->List Aq×Nat} {M B:Nat} (hM:∀s∈S,(f s).1.length<=M) (hB:o.length+S.length*M<=B) (ih:∀(o:List Aq),o.length+M<=B->∀s∈S,Con prog 100 [.ptr 1000 0,(a.nxt g s).av] (e8 l xs G fo caps sg 1001 (o.map Aq.av)) (bh (f s).2) (e8 l xs G fo caps sg 900 ((o++(f s).1).map Aq.av))) :
  Con prog 100 [.ptr 1000 0,a.av] (e8 l xs G fo caps sg 1001 (o.map Aq.av)) (bh (if E≠0 then E else(ff F sg f S).2)) (e8 l xs G fo caps sg 900 ((o++(if E≠0 then[]else(ff F sg f S).1)).map Aq.av)):=by
 have hkG:=(List.getElem?_eq_some_iff.1 hg).1;refine gF func100 (fun k z h=>v8 oz h) ?_;refine gl ?_;refine gl ?_;refine gC (fun t21=>?_) (fun t21=>?_) (st1:=(3,0));exact absurd t21 (by simp[aa];omega);refine gi (au hg) ?_;refine gt (x9 (Qi hd hx) (bp rfl rfl) rfl rfl rfl rfl rfl) ?_;refine gc hS ?_;refine gD ?_;refine gC (fun t54=>?_) (fun t54=>?_) (st1:=(8,0)) (st2:=(77777,0))
 ·have hE:=cT t54;refine gW (Wk.o (sl:=[(4,some (.v .nilIface)),(8,some (bh E))]) (hp:=[(1000,some (.box (fi l xs G fo caps sg (.ms 1001 3 0 (o.map Aq.av).length)))),(1001,some (.row 3 (o.map Aq.av)))])) ?_ (8,0);refine gW (Wk.rk (k:=1001) (d:=900) rfl rfl) ?_;refine gR ?_;rw[if_pos hE,if_pos hE,append_nil];exact aw.keep (lN rfl rfl)
 have hE:=da t54;refine gW (Wk.of (sl:=[(0,some (.ptr 1000 0)),(3,some (.ptr 3 0)),(5,some (i64 a.ms.length)),(6,some (.ptr 6 0)),(7,some (.lst 3 (S.map Sv.av)))]) (hp:=[(3,some (.box a.cs)),(6,some (.box g.av.cells)),(1000,some (.box (fi l xs G fo caps sg (.ms 1001 3 0 ((o++[]).map Aq.av).length)))),(1001,some (.row 3 ((o++[]).map Aq.av)))]) aQ (.k (.k (.cons rfl (BlkSub.bL (.cons (.refl _) (.cons (.refl _) (.cons (.refl _) (.cons (.refl _) (.cons (.refl _) (.cons (.refl _) (.cons (.refl _) (.cons (.refl _) (.cons (Sub.of (by simp)) .nil))))))))) rfl) (.cons rfl (BlkSub.of (by rw[append_nil])) .nil))))) ?_ (77777,0)
 refine gW (Wk.rk (k:=1001) (d:=901) rfl rfl) ?_;refine gl ?_;refine gw [0,3,5,6,56,57] [3,6] (fun(i:Nat)(c:List Aq)=>[(58,some (i64 i))]) (fun _ c=>[(1000,some (.box (fi l xs G fo caps sg (.ms 901 3 0 ((o++c).map Aq.av).length)))),(901,some (.row 3 ((o++c).map Aq.av)))]) (fun i c=>qW F sg f S i c/\c.length<=i*M) (fun i _=>S.length-i) 0 ([]) ⟨Wu F sg f S,zero_le _⟩ ?_;rintro i c ⟨hfo,hcl⟩ K1 J1;refine gC (fun t59=>?_) (fun t59=>?_) (st2:=(19,0))
 ·have hin:=aT t59;obtain⟨s,hs⟩:=aq hin;have hsm:=mem_of_getElem? hs;have hfl:=hM s hsm;have hmul:(i+1)*M=i*M+M:=Nat.succ_mul i M;have hmul2:(i+1)*M<=S.length*M:=mul_le_mul_right M hin;refine gi (au hs) ?_;refine gc (hF s.mode) ?_;refine gD ?_;refine gC (fun t70=>?_) (fun t70=>?_) (st2:=(77777,0))
  ·have hFm : F s.mode = false := by simpa using t70
   refine ga aE ?_;exact fQ J1 (i+1) c ⟨RY hfo hs hFm,by omega⟩
  have hFm:F s.mode=true:=by simpa using t70
  refine gW (Wk.o (sl:=[(0,some (.ptr 1000 0)),(3,some (.ptr 3 0)),(5,some (i64 a.ms.length)),(6,some (.ptr 6 0)),(10,some (.ptr 10 0)),(56,some (.lst 3 (S.map Sv.av))),(57,some (i64 S.length)),(58,some (i64 i))]) (hp:=[(3,some (.box a.cs)),(6,some (.box g.av.cells)),(10,some (.box s.av.cells)),(1000,some (.box (fi l xs G fo caps sg (.ms 901 3 0 ((o++c).map Aq.av).length)))),(901,some (.row 3 ((o++c).map Aq.av)))])) ?_
  refine gc (hb s hsm) ?_;refine gt (aA (M8 (ih (o++c) (by rw[length_append];omega) s hsm)) (bp rfl rfl) aC rfl rfl) ?_;refine gC (fun t78=>?_) (fun t78=>?_)
  ·have he:(f s).2≠0:=cT t78;have hR:=Oc hfo hs hFm he;refine gR ?_;rw[if_neg oz,if_neg oz,hR,<- append_assoc];exact aw.keep (lN rfl rfl)
  have he:(f s).2=0:=da t78;refine gC (fun t83=>?_) (fun t83=>?_) (st2:=(77777,0))
  ·have h1 : sg = true := by simpa using t83
   have hR:=S7 hfo hs hFm he h1;refine gR ?_;rw[if_neg oz,if_neg oz,hR,<- append_assoc];exact aw.keep (lN rfl rfl)
  have h1:sg=false:=by simpa using t83
  refine gW (Wk.of (sl:=[(0,some (.ptr 1000 0)),(3,some (.ptr 3 0)),(5,some (i64 a.ms.length)),(6,some (.ptr 6 0)),(56,some (.lst 3 (S.map Sv.av))),(57,some (i64 S.length)),(58,some (i64 i))]) (hp:=[(3,some (.box a.cs)),(6,some (.box g.av.cells)),(1000,some (.box (fi l xs G fo caps sg (.ms 900 3 0 ((o++(c++(f s).1)).map Aq.av).length)))),(900,some (.row 3 ((o++(c++(f s).1)).map Aq.av)))]) aQ (.k (.k (.cons rfl (BlkSub.bL (.cons (.refl _) (.cons (.refl _) (.cons (.refl _) (.cons (.refl _) (.cons (.refl _) (.cons (.refl _) (.cons (.refl _) (.cons (.refl _) (.cons (Sub.of (by rw[append_assoc])) .nil))))))))) rfl) (.cons rfl (BlkSub.of (by rw[append_assoc])) .nil))))) ?_ (77777,0)
  refine gW (Wk.rk (k:=900) (d:=901) rfl rfl) ?_;refine ga aE ?_;exact fQ J1 (i+1) (c++(f s).1) ⟨Vv hfo hs hFm he h1,by rw[length_append];omega⟩
 have hin:=a5 hfo.1 t59;subst hin;have hR:=JR hfo;refine gW (Wk.o (sl:=[]) (hp:=[(1000,some (.box (fi l xs G fo caps sg (.ms 901 3 0 ((o++c).map Aq.av).length)))),(901,some (.row 3 ((o++c).map Aq.av)))])) ?_ (19,0);refine gW (Wk.rk (k:=901) (d:=900) rfl rfl) ?_;refine gR ?_;rw[if_neg oz,if_neg oz,hR];exact aw.keep (lN rfl rfl)
variable{P:Program}{N:Nat}{R:Array Oper}{s:AS}{pos:String}{after:Array Edge}
end Go.Lw
namespace Go.Lw
open Go.Proofs
theorem pE(i:Int)(n:Nat):FP 227 [i64 i,i64 n] (bl (bw i n)):=by
 refine ah func227 ?_;refine af ?_;exact congrArg bl (Gv i n)
theorem Sf(p q:Mk)(hp:p.ok)(hq:q.ok):FP 228 [p.av,q.av] (bl (decide (p.x.q=q.x.q/\p.y.q=q.y.q))):=by
 refine ah func228 ?_;refine gc (I8 p.x q.x hp.x hq.x ((hp.qx.sub hq.qx).qs oz)) ?_;refine bF (fun _=>(I8 p.y q.y hp.y hq.y ((hp.qy.sub hq.qy).qs oz))) ?_;refine af ?_;exact congrArg bl Ki
theorem TB(b:Bd)(hbo:b.ok):FP 226 [b.av] (i64 (if 8<b.pts.length then 4 else eZ b.pts.length (dZ b.pts):Nat)):=by
 have hll:=hbo.ll;refine ah func226 ?_;refine gl ?_;refine gC (fun t9=>?_) (fun t9=>?_)
 ·have h0:8<b.pts.length:=jg t9;refine af ?_;rw[if_pos h0];rfl
 have h0:b.pts.length<=8:=gN t9;have e0:(if 8<b.pts.length then 4 else eZ b.pts.length (dZ b.pts):Nat)=eZ b.pts.length (dZ b.pts):=if_neg oz;refine aJ [1] [1] (fun(p:Nat)=>[(3,some (i64 p))]) (fun _=>[]) (fun p=>p<=b.pts.length/\∀j,j<p->dZ b.pts j=0) (fun p=>b.pts.length-p) 0 ⟨zero_le _,fun j h=>by omega⟩ ?_;rintro p ⟨hp,hpj⟩ K1 J1;refine gl ?_;refine gC (fun t14=>?_) (fun t14=>?_)
 ·have hpn:=aT t14;obtain⟨m,hm⟩:=aq hpn;have hmd:b.pts.getD p default=m:=aB hm;have hmm:=mem_of_getElem? hm;have hmdup:=mS Mk.name hm;have hmo:=hbo.pts m hmm;refine gi (au hm) ?_;refine gc (r7 m.name (hbo.names m hmm)) ?_;refine gC (fun t25=>?_) (fun t25=>?_)
  ·have h4:=cW t25;have e2:dZ b.pts p = 5:=by unfold dZ; rw [hmd,if_pos h4]
   refine af ?_;rw[e0,d5 hpn hpj (by rw[e2];decide),e2];rfl
  have h4:=c9 t25;refine aJ [1,3,4] [1,4] (fun(q:Nat)=>[(5,some (i64 q))]) (fun _=>[]) (fun q=>q<=p/\(b.pts.take q).any (fun y=>dK y.name m.name)=false) (fun q=>p-q) 0 ⟨zero_le _,rfl⟩ ?_;rintro q ⟨hq,hqd⟩ K2 J2;refine gC (fun t28=>?_) (fun t28=>?_)
  ·have hqn:=aT t28;obtain⟨y,hy⟩:∃y,b.pts[q]?=some y:=aq oz;refine gi (au hy) ?_;refine gD ?_;refine gC (fun t39=>?_) (fun t39=>?_)
   ·have h5:dK y.name m.name = true:=t39;have e2:dZ b.pts p = 6:=by unfold dZ; rw [hmd,if_neg (by rw [h4]; decide),if_pos (by rw [hmdup]; exact lh hy hqn h5)]
    refine af ?_;rw[e0,d5 hpn hpj (by rw[e2];decide),e2];rfl
   have h5:dK y.name m.name=false:=t39;refine ga aE ?_;exact aD J2 (q+1) ⟨hqn,km hy hqd h5⟩
  have hqn:=a5 hq t28;subst hqn;have hmnd:¬fX (b.pts.map Mk.name) q=true:=by rw[hmdup,hqd];decide
  refine gc (uo m.x hmo.x) ?_;refine bF (fun _=>(uo m.y hmo.y)) ?_;refine gC (fun t49=>?_) (fun t49=>?_)
  ·have h6:=oc t49;have e2:dZ b.pts q = 3:=by unfold dZ; rw [hmd,if_neg (by rw [h4]; decide),if_neg hmnd,if_neg (by rintro ⟨g1,g2⟩; rcases h6 with g | g; (rw [g1] at g; cases g); (rw [g2] at g; cases g))]
   refine af ?_;rw[e0,d5 hpn hpj (by rw[e2];decide),e2];rfl
  have h6:=nW t49;have e2:dZ b.pts q=0:=by unfold dZ;rw[hmd,if_neg (by rw[h4];decide),if_neg hmnd,if_pos h6]
  refine ga aE ?_;exact aD J1 (q+1) ⟨hpn,fun j h9=>by rcases lt_or_ge j q with g |g;exact hpj j g;(have:j=q:=by omega);subst this;exact e2⟩
 have hpn:=a5 hp t14;subst hpn;refine af ?_;rw[e0,mX hpj];rfl
theorem To(l:Li)(hl:l.ok):FP 112 [l.av] (i64 (gG l)):=by
 have hlb:=hl.lb;have e0:gG l=eZ l.bo.length (dY l.bo):=rfl;refine ah func112 ?_;refine aJ [1] [1] (fun(i:Nat)=>[(3,some (i64 i))]) (fun _=>[]) (fun i=>i<=l.bo.length/\∀j,j<i->dY l.bo j=0) (fun i=>l.bo.length-i) 0 ⟨zero_le _,fun j h=>by omega⟩ ?_;rintro i ⟨hi,hj⟩ K1 J1;refine gl ?_;refine gC (fun t10=>?_) (fun t10=>?_)
 ·have hin:=aT t10;obtain⟨b,hb⟩:=aq hin;have hbd:l.bo.getD i default=b:=aB hb;have hbo:=hl.bo b (mem_of_getElem? hb);have hbdup:=mS Bd.name hb;refine gi (au hb) ?_;refine gc (r7 b.name hbo.name) ?_;refine gC (fun t20=>?_) (fun t20=>?_)
  ·have h1:=cW t20;have e1:dY l.bo i = 5:=by unfold dY; rw [hbd,if_pos h1]
   refine af ?_;rw[e0,d5 hin hj (by rw[e1];decide),e1];rfl
  have h1:=c9 t20;refine aJ [1,3] [1] (fun(k:Nat)=>[(4,some (i64 k))]) (fun _=>[]) (fun k=>k<=i/\(l.bo.take k).any (fun y=>dK y.name b.name)=false) (fun k=>i-k) 0 ⟨zero_le _,rfl⟩ ?_;rintro k ⟨hk,hd⟩ K2 J2;refine gC (fun t23=>?_) (fun t23=>?_)
  ·have hkn:=aT t23;obtain⟨y,hy⟩:∃y,l.bo[k]?=some y:=aq oz;refine gi (au hy) ?_;refine gi (au hb) ?_;refine gD ?_;refine gC (fun t38=>?_) (fun t38=>?_)
   ·have h2:dK y.name b.name = true:=t38;have e1:dY l.bo i = 6:=by unfold dY; rw [hbd,if_neg (by rw [h1]; decide),if_pos (by rw [hbdup]; exact lh hy hkn h2)]
    refine af ?_;rw[e0,d5 hin hj (by rw[e1];decide),e1];rfl
   have h2:dK y.name b.name=false:=t38;refine ga aE ?_;exact aD J2 (k+1) ⟨hkn,km hy hd h2⟩
  have hkn:=a5 hk t23;subst hkn;have hnd:¬fX (l.bo.map Bd.name) k=true:=by rw[hbdup,hd];decide
  have e1:dY l.bo k=if 8<b.pts.length then 4 else eZ b.pts.length (dZ b.pts):=by unfold dY;rw[hbd,if_neg (by rw[h1];decide),if_neg hnd]
  refine gi (au hb) ?_;refine gc (TB b hbo) ?_;refine gC (fun t46=>?_) (fun t46=>?_)
  ·have h3:=jK t46;refine af ?_;rw[e0,d5 hin hj (by rw[e1];exact h3),e1]
  have h3:=jA t46;refine ga aE ?_;exact aD J1 (k+1) ⟨hin,fun j h9=>by rcases lt_or_ge j k with g |g;exact hj j g;(have:j=k:=by omega);subst this;exact e1.trans h3⟩
 have hin:=a5 hi t10;subst hin;refine af ?_;rw[e0,mX hj];rfl
theorem VS(l:Li)(hl:l.ok)(i:Nat)(hi:i<l.jo.length)(h16:l.jo.length<=16):FP 113 [l.av,i64 i] (i64 (fN l i)):=by
 obtain⟨j,hjj⟩:=aq hi;have hbd:l.jo.getD i default=j:=aB hjj;have hbdup:=mS Jt.name hjj;refine ah func113 ?_;refine gi (au hjj) ?_;refine gc (r7 j.name (hl.jnames j (mem_of_getElem? hjj))) ?_;refine gC (fun t17=>?_) (fun t17=>?_)
 ·have h0:=cW t17;refine af ?_;unfold fN;rw[hbd,if_pos h0];rfl
 have h0:=c9 t17;refine aJ [1,2,5] [2,5] (fun(k:Nat)=>[(6,some (i64 k))]) (fun _=>[]) (fun k=>k<=i/\(l.jo.take k).any (fun y=>dK y.name j.name)=false) (fun k=>i-k) 0 ⟨zero_le _,rfl⟩ ?_;rintro k ⟨hk,hd⟩ K1 J1;refine gC (fun t20=>?_) (fun t20=>?_)
 ·have hkn:=aT t20;obtain⟨y,hy⟩:∃y,l.jo[k]?=some y:=aq oz;refine gi (au hy) ?_;refine gD ?_;refine gC (fun t31=>?_) (fun t31=>?_)
  ·have h2:dK y.name j.name=true:=t31;refine af ?_;unfold fN;rw[hbd,if_neg (by rw[h0];decide),if_pos (by rw[hbdup];exact lh hy hkn h2)];rfl
  have h2:dK y.name j.name=false:=t31;refine ga aE ?_;exact aD J1 (k+1) ⟨hkn,km hy hd h2⟩
 have hkn:=a5 hk t20;subst hkn;have hnd:¬fX (l.jo.map Jt.name) k=true:=by rw[hbdup,hd];decide
 have e1:fN l k=d6 l j:=by unfold fN;rw[hbd,if_neg (by rw[h0];decide),if_neg hnd]
 refine gC (fun t39=>?_) (fun t39=>?_)
 ·have h1:=Ez t39;refine af ?_;rw[e1];unfold d6;rw[if_pos h1];rfl
 have h1:=B9 t39;refine gl ?_;refine gc (pE j.a l.bo.length) ?_;refine bP ?_;refine bF (fun _=>(pE j.b l.bo.length)) ?_;refine gC (fun t55=>?_) (fun t55=>?_)
 ·have h2:=oc t55;refine af ?_;rw[e1];unfold d6;rw[if_neg h1,if_pos h2];rfl
 have h2:=nW t55;have h2n:¬(bw j.a l.bo.length=false\/bw j.b l.bo.length=false):=by rw[h2.1,h2.2];simp
 obtain⟨A,hA,pA,mA,zA0⟩:=qD h2.1;obtain⟨B,hB,pB,mB,zB0⟩:=qD h2.2;refine gC (fun t60=>?_) (fun t60=>?_)
 ·have h3:=cD t60;refine af ?_;rw[e1];unfold d6;rw[if_neg h1,if_neg h2n,if_pos h3];rfl
 have h3:=dm t60;refine gi (au hA) ?_;refine gi (au hB) ?_;refine gD ?_;refine gl ?_;refine gc (pE j.point A.pts.length) ?_;refine bP ?_;refine bF (fun _=>(pE j.on B.pts.length)) ?_;refine gC (fun t88=>?_) (fun t88=>?_)
 ·have h4:=oc t88;refine af ?_;rw[e1];unfold d6;rw[if_neg h1,if_neg h2n,if_neg h3,pA,pB,if_pos h4];rfl
 have h4:=nW t88;have h4n:¬(bw j.point A.pts.length=false\/bw j.on B.pts.length=false):=by rw[h4.1,h4.2];simp
 refine gC (fun t91=>?_) (fun t91=>?_)
 ·have h5:=cD t91;refine gC (fun t94=>?_) (fun t94=>?_)
  ·have h6:=nO t94;refine af ?_;rw[e1];unfold d6;rw[if_neg h1,if_neg h2n,if_neg h3,pA,pB,if_neg h4n,if_pos h5,if_pos h6];rfl
  have h6:=ww t94;refine af ?_;rw[e1];unfold d6;rw[if_neg h1,if_neg h2n,if_neg h3,pA,pB,if_neg h4n,if_pos h5,if_neg (by rw[h6];simp)];rfl
 have h5:=dm t91;refine gl ?_;refine gc (pE j.to B.pts.length) ?_;refine gC (fun t100=>?_) (fun t100=>?_)
 ·have h6:=cW t100;refine af ?_;rw[e1];unfold d6;rw[if_neg h1,if_neg h2n,if_neg h3,pA,pB,if_neg h4n,if_neg h5,if_pos h6];rfl
 have h6:=c9 t100;obtain⟨m1,g1,d1,mm1,z1⟩:=tI h4.2;obtain⟨m2,g2,d2,mm2,z2⟩:=tI h6;have mo1:=(hl.bo B mB).pts m1 mm1;have mo2:=(hl.bo B mB).pts m2 mm2;refine gi (au g1) ?_;refine gi (au g2) ?_;refine gc (Sf m1 m2 mo1 mo2) ?_;refine gD ?_;refine gC (fun t111=>?_) (fun t111=>?_)
 ·have h7:=of_decide_eq_true t111;refine af ?_;rw[e1];unfold d6;rw[if_neg h1,if_neg h2n,if_neg h3,pA,pB,if_neg h4n,if_neg h5,if_neg (by rw[h6];decide),d1,d2,if_pos h7];rfl
 have h7:=of_decide_eq_false t111;refine af ?_;rw[e1];unfold d6;rw[if_neg h1,if_neg h2n,if_neg h3,pA,pB,if_neg h4n,if_neg h5,if_neg (by rw[h6];decide),d1,d2,if_neg h7];rfl
theorem UH(l:Li)(hl:l.ok)(i:Nat)(hi:i<l.dv.length)(h2l:l.dv.length<=2):FP 114 [l.av,i64 i] (i64 (dP l i)):=by
 obtain⟨b,hb⟩:=aq hi;have hbd:l.dv.getD i default=b:=aB hb;have hbdup:=mS Dr.name hb;refine ah func114 ?_;refine gi (au hb) ?_;refine gc (r7 b.name (hl.dnames b (mem_of_getElem? hb))) ?_;refine gC (fun t16=>?_) (fun t16=>?_)
 ·have h1:=cW t16;refine af ?_;unfold dP;rw[hbd,if_pos h1];rfl
 have h1:=c9 t16;refine aJ [1,2,5] [2,5] (fun(k:Nat)=>[(6,some (i64 k))]) (fun _=>[]) (fun k=>k<=i/\(l.dv.take k).any (fun y=>dK y.name b.name)=false) (fun k=>i-k) 0 ⟨zero_le _,rfl⟩ ?_;rintro k ⟨hk,hd⟩ K1 J1;refine gC (fun t19=>?_) (fun t19=>?_)
 ·have hkn:=aT t19;obtain⟨y,hy⟩:∃y,l.dv[k]?=some y:=aq oz;refine gi (au hy) ?_;refine gD ?_;refine gC (fun t30=>?_) (fun t30=>?_)
  ·have h2:dK y.name b.name=true:=t30;refine af ?_;unfold dP;rw[hbd,if_neg (by rw[h1];decide),if_pos (by rw[hbdup];exact lh hy hkn h2)];rfl
  have h2:dK y.name b.name=false:=t30;refine ga aE ?_;exact aD J1 (k+1) ⟨hkn,km hy hd h2⟩
 have hkn:=a5 hk t19;subst hkn;have hnd:¬fX (l.dv.map Dr.name) k=true:=by rw[hbdup,hd];decide
 refine gl ?_;refine gc (pE b.body l.bo.length) ?_;refine gC (fun t37=>?_) (fun t37=>?_)
 ·have h3:=cW t37;refine af ?_;unfold dP;rw[hbd,if_neg (by rw[h1];decide),if_neg hnd,if_pos h3];rfl
 have h3:=c9 t37;refine gC (fun t40=>?_) (fun t40=>?_)
 ·have h4:=cD t40;refine af ?_;unfold dP;rw[hbd,if_neg (by rw[h1];decide),if_neg hnd,if_neg (by rw[h3];decide),if_pos h4];rfl
 have h4:=dm t40;have e1:dP l k=if(l.dv.take k).any (fun d=>decide (d.body=b.body))=true then 6 else 0:=by unfold dP;rw[hbd,if_neg (by rw[h1];decide),if_neg hnd,if_neg (by rw[h3];decide),if_neg h4]
 refine aJ [1,2,5] [2,5] (fun(q:Nat)=>[(7,some (i64 q))]) (fun _=>[]) (fun q=>q<=k/\(l.dv.take q).any (fun d=>decide (d.body=b.body))=false) (fun q=>k-q) 0 ⟨zero_le _,rfl⟩ ?_;rintro q ⟨hq,hqd⟩ K2 J2;refine gC (fun t43=>?_) (fun t43=>?_)
 ·have hqn:=aT t43;obtain⟨y,hy⟩:∃y,l.dv[q]?=some y:=aq oz;refine gi (au hy) ?_;refine gD ?_;refine gC (fun t54=>?_) (fun t54=>?_)
  ·have h5:decide (y.body=b.body)=true:=decide_eq_true (cD t54);refine af ?_;rw[e1,if_pos (lh hy hqn h5)];rfl
  have h5:decide (y.body=b.body)=false:=decide_eq_false (dm t54);refine ga aE ?_;exact aD J2 (q+1) ⟨hqn,km hy hqd h5⟩
 have hqn:=a5 hq t43;subst hqn;refine af ?_;rw[e1,hqd];rfl
theorem D4(l:Li)(hl:l.ok):FP 40 [l.av] (i64 (ax l)):=by
 have hlb:=hl.lb;refine ah func40 ?_;refine gc (r7 l.name hl.name) ?_;refine gC (fun t11=>?_) (fun t11=>?_)
 ·have h1:=cW t11;refine af ?_;unfold ax;rw[if_pos h1];rfl
 have h1:=c9 t11;refine gl ?_;refine gC (fun t15=>?_) (fun t15=>?_)
 ·have h2:=Fs t15;refine af ?_;unfold ax;rw[if_neg (by rw[h1];decide),if_pos h2];rfl
 have h2:=Gn t15;refine gl ?_;refine gC (fun t19=>?_) (fun t19=>?_)
 ·have h3:8<l.bo.length:=jg t19;refine af ?_;unfold ax;rw[if_neg (by rw[h1];decide),if_neg h2,if_pos h3];rfl
 have h3:l.bo.length<=8:=gN t19;have e0:ax l=if gG l≠0 then gG l else if ep l≠0 then ep l else fM l:=by unfold ax;rw[if_neg (by rw[h1];decide),if_neg h2,if_neg oz]
 refine gc (To l hl) ?_;refine gC (fun t23=>?_) (fun t23=>?_)
 ·have h4:gG l≠0:=jK t23;refine af ?_;rw[e0,if_pos h4]
 have h4:gG l=0:=jA t23;refine gl ?_;refine gC (fun t28=>?_) (fun t28=>?_)
 ·have h5:16 < l.jo.length:=jg t28;have ej:ep l = 4:=by unfold ep; rw [if_pos h5]
  refine af ?_;rw[e0,if_neg (by rw[h4];simp),if_pos (by rw[ej];decide),ej];rfl
 have h5:l.jo.length<=16:=gN t28;have ej:ep l=eZ l.jo.length (fN l):=by unfold ep;rw[if_neg oz]
 refine aJ [1] [1] (fun(i:Nat)=>[(4,some (i64 i))]) (fun _=>[]) (fun i=>i<=l.jo.length/\∀j,j<i->fN l j=0) (fun i=>l.jo.length-i) 0 ⟨zero_le _,fun j h=>by omega⟩ ?_;rintro i ⟨hi,hj⟩ K1 J1;refine gl ?_;refine gC (fun t33=>?_) (fun t33=>?_)
 ·have hin:=aT t33;refine gc (VS l hl i hin h5) ?_;refine gC (fun t40=>?_) (fun t40=>?_)
  ·have h6:=jK t40;refine af ?_;rw[e0,if_neg (by rw[h4];simp),if_pos (by rw[ej,d5 hin hj h6];exact h6),ej,d5 hin hj h6]
  have h6:=jA t40;refine ga aE ?_;exact aD J1 (i+1) ⟨hin,fun j h9=>by rcases lt_or_ge j i with g |g;exact hj j g;(have:j=i:=by omega);subst this;exact h6⟩
 have hin:=a5 hi t33;subst hin;have ejz:ep l=0:=ej.trans (mX hj);have e0':ax l=fM l:=by rw[e0,if_neg (by rw[h4];simp),if_neg (by rw[ejz];simp)]
 refine gl ?_;refine gC (fun t45=>?_) (fun t45=>?_)
 ·have h6:2<l.dv.length:=jg t45;refine af ?_;rw[e0'];unfold fM;rw[if_pos h6];rfl
 have h6:l.dv.length<=2:=gN t45;have ed:fM l=eZ l.dv.length (dP l):=by unfold fM;rw[if_neg oz]
 refine aJ [1] [1] (fun(k:Nat)=>[(6,some (i64 k))]) (fun _=>[]) (fun k=>k<=l.dv.length/\∀j,j<k->dP l j=0) (fun k=>l.dv.length-k) 0 ⟨zero_le _,fun j h=>by omega⟩ ?_;rintro k ⟨hk,hkj⟩ K2 J2;refine gl ?_;refine gC (fun t50=>?_) (fun t50=>?_)
 ·have hkn:=aT t50;refine gc (UH l hl k hkn h6) ?_;refine gC (fun t57=>?_) (fun t57=>?_)
  ·have h7:=jK t57;refine af ?_;rw[e0',ed,d5 hkn hkj h7]
  have h7:=jA t57;refine ga aE ?_;exact aD J2 (k+1) ⟨hkn,fun j h9=>by rcases lt_or_ge j k with g |g;exact hkj j g;(have:j=k:=by omega);subst this;exact h7⟩
 have hkn:=a5 hk t50;subst hkn;refine af ?_;rw[e0',ed,mX hkj];rfl
theorem Ms(l:Li)(hl:l.okw):FP 56 [l.av] (bl (ir l)):=by
 have hbl:=hl.lb;refine ah func56 ?_;refine gl ?_;refine aJ [1,8,9] [1] (fun(i:Nat)=>[(10,some (i64 i))]) (fun _=>[]) (fun i=>i<=l.bo.length/\(l.bo.take i).all oR=true) (fun i=>l.bo.length-i) 0 ⟨zero_le _,rfl⟩ ?_;rintro i ⟨hi,hj⟩ K1 J1;refine gC (fun t11=>?_) (fun t11=>?_)
 ·have hin:=aT t11;obtain⟨b,hb⟩:=aq hin;refine gi (au hb) ?_;refine gl ?_;refine gC (fun t17=>?_) (fun t17=>?_)
  ·have h1:30<b.pts.length:=jg t17;refine af ?_;unfold ir;rw[lB hb (by unfold oR;rw[decide_eq_false oz];rfl)];rfl
  have h1:b.pts.length<=30:=gN t17;refine gl ?_;refine aJ [1,8,9,10,19,20] [1] (fun(k:Nat)=>[(21,some (i64 k))]) (fun _=>[]) (fun k=>k<=b.pts.length/\(b.pts.take k).all lF=true) (fun k=>b.pts.length-k) 0 ⟨zero_le _,rfl⟩ ?_;rintro k ⟨hk,hkj⟩ K2 J2;refine gC (fun t22=>?_) (fun t22=>?_)
  ·have hkn:=aT t22;obtain⟨p,hp⟩:=aq hkn;refine gi (au hp) ?_;refine gl ?_;refine bP ?_;refine bP ?_;refine bP ?_;refine gC (fun t50=>?_) (fun t50=>?_)
   ·have h2:lF p=false:=Qw t50;refine af ?_;unfold ir;rw[lB hb (by unfold oR;rw[lB hp h2,Bool.and_false])];rfl
   have h2:lF p=true:=Ro t50;refine ga aE ?_;exact aD J2 (k+1) ⟨hkn,mf hkj hp h2⟩
  have hkn:=a5 hk t22;refine ga aE ?_;exact aD J1 (i+1) ⟨hin,mf hj hb (by unfold oR;rw[decide_eq_true h1,l7 hkn hkj];rfl)⟩
 have hin:=a5 hi t11;refine gl ?_;refine bP ?_;refine bP ?_;refine af ?_;exact congrArg bl (LX (l7 hin hj))
def kT(r:Rt):Bool:=!(cond (cond (cond (aa .gtr (r.num.length:Int) 1) true (aa .gtr (r.den.length:Int) 1)) true (cond (aa .eql (r.num.length:Int) 1) (aa .gtr (ai r.num 0:Int) 400) false)) true
  (cond (aa .eql (r.den.length:Int) 1) (aa .gtr (ai r.den 0:Int) 20) false))
theorem FD(rs:List Rt)(hl:rs.length<=1000):FP 197 [.lst 3 (rs.map Rt.av)] (bl (rs.all kT)):=by
 refine ah func197 ?_;refine gl ?_;refine aJ [5,6] [] (fun(i:Nat)=>[(7,some (i64 i))]) (fun _=>[]) (fun i=>i<=rs.length/\(rs.take i).all kT=true) (fun i=>rs.length-i) 0 ⟨zero_le _,rfl⟩ ?_;rintro i ⟨hi,hj⟩ K1 J1;refine gC (fun t8=>?_) (fun t8=>?_)
 ·have hin:=aT t8;obtain ⟨r,hr⟩:=aq hin;refine gi (au hr) ?_;refine gl ?_;refine bP ?_;refine bP ?_;refine mH (fun ⟨h,h2⟩=>(cc (by have:=cD h2; have e:Int.toNat 0 = 0:=rfl; omega))) ?_;refine bP ?_;refine mH (fun ⟨h,h2⟩=>(cc (by have:=cD h2; have e:Int.toNat 0 = 0:=rfl; omega))) ?_;refine gC (fun t46=>?_) (fun t46=>?_)
  ·have h1:kT r=false:=congrArg Bool.not t46;refine af ?_;rw[lB hr h1];rfl
  have h1:kT r=true:=congrArg Bool.not t46;refine ga aE ?_;exact aD J1 (i+1) ⟨hin,mf hj hr h1⟩
 have hin:=a5 hi t8;refine af ?_;rw[l7 hin hj];rfl
def lS(x:Tn):Bool:=decide (x.t.num.length<=1/\x.t.den.length<=1)
def kP(m:Mk):Bool:=decide (m.x.num.length<=1/\m.x.den.length<=1/\m.y.num.length<=1/\m.y.den.length<=1)
def pf(xs:List Tn):Bool:=xs.all (fun x=>[x.t].all kT)
def tq(ps:List Mk):Bool:=ps.all (fun p=>[p.x,p.y].all kT)
def qi(l:Li):Bool:=l.bo.all (fun b=>tq b.pts)
theorem O5(l:Li)(hl:l.ok)(xs:List Tn)(hxl:xs.length<=281474976710656):FP 98 [l.av,.lst 4 (xs.map Tn.av)] (bl (pf xs&&qi l)):=by
 have hlb:=hl.lb;refine ah func98 ?_;refine gl ?_;refine aJ [2,11,12] [2] (fun(i:Nat)=>[(13,some (i64 i))]) (fun _=>[]) (fun i=>i<=xs.length/\(xs.take i).all (fun x=>[x.t].all kT)=true) (fun i=>xs.length-i) 0 ⟨zero_le _,rfl⟩ ?_;rintro i ⟨hi,hj⟩ K1 J1;refine gC (fun t14=>?_) (fun t14=>?_)
 ·have hin:=aT t14;obtain ⟨x,hx⟩:=aq hin;refine gi (au hx) ?_;refine gc (FD [x.t] (by show 1 <= _; omega)) ?_;refine gC (fun t21=>?_) (fun t21=>?_)
  ·have h1:=cW t21;refine af ?_;unfold pf;rw[lB hx h1];rfl
  have h1:=c9 t21;refine ga aE ?_;exact aD J1 (i+1) ⟨hin,mf hj hx h1⟩
 have hT:pf xs=true:=l7 (a5 hi t14) hj;refine gl ?_;refine aJ [2,24,25] [2] (fun(i:Nat)=>[(26,some (i64 i))]) (fun _=>[]) (fun i=>i<=l.bo.length/\(l.bo.take i).all (fun b=>tq b.pts)=true) (fun i=>l.bo.length-i) 0 ⟨zero_le _,rfl⟩ ?_;rintro i ⟨hi2,hj2⟩ K2 J2;refine gC (fun t27=>?_) (fun t27=>?_)
 ·have hin:=aT t27;obtain⟨b,hb⟩:=aq hin;have hbl:=(hl.bo b (mem_of_getElem? hb)).ll;refine gi (au hb) ?_;refine gl ?_;refine aJ [2,24,25,26,31,32] [2] (fun(k:Nat)=>[(33,some (i64 k))]) (fun _=>[]) (fun k=>k<=b.pts.length/\(b.pts.take k).all (fun p=>[p.x,p.y].all kT)=true) (fun k=>b.pts.length-k) 0 ⟨zero_le _,rfl⟩ ?_;rintro k ⟨hk,hkj⟩ K3 J3;refine gC (fun t34=>?_) (fun t34=>?_)
  ·have hkn:=aT t34;obtain ⟨p,hp⟩:=aq hkn;refine gi (au hp) ?_;refine gc (FD [p.x,p.y] (by show 2 <= _; omega)) ?_;refine gC (fun t43=>?_) (fun t43=>?_)
   ·have h1:=cW t43;refine af ?_;rw[hT];unfold qi;rw[lB hb (by unfold tq;exact lB hp h1)];rfl
   have h1:=c9 t43;refine ga aE ?_;exact aD J3 (k+1) ⟨hkn,mf hkj hp h1⟩
  have hP:tq b.pts=true:=l7 (a5 hk t34) hkj;refine ga aE ?_;exact aD J2 (i+1) ⟨hin,mf hj2 hb hP⟩
 have hL:qi l=true:=l7 (a5 hi2 t27) hj2;refine af ?_;rw[hT,hL];rfl
def yK(l:Li)(xs:List Tn):Bool :=
  cond (cond (aa .neq (splitE l:Int) 0) true (aa .leq (((splitG l).length:Int)-l.dv.length) 1)) true (cond (aa .eql (((splitG l).length:Int)-l.dv.length) 2) (pf xs&&qi l) false)
def je(l:Li)(xs:List Tn):Bool :=
  (ir l&&decide (xs.length<=20))&&(xs.all lS&&(l.bo.all (fun b=>b.pts.all kP)&&(if ax l=0 then yK l xs else true)))
theorem V6{l:Li}{n:Nat}(h:cond (!ir l) true (aa .gtr (n:Int) 20)=true):(ir l&&decide (n<=20))=false:=by
 cases hb:ir l
 ·rfl
 ·rw[hb]at h;have h1:20<n:=jg (b:=20) h;rw[decide_eq_false oz];rfl
theorem SE{l:Li}{n:Nat}(h:cond (!ir l) true (aa .gtr (n:Int) 20)=false):ir l=true/\n<=20:=by
 cases hb:ir l
 ·rw[hb]at h;cases h
 ·rw[hb]at h;exact⟨rfl,gN (b:=20) h⟩
theorem HD{x:Tn}:cond (aa .gtr (x.t.num.length:Int) 1) true (aa .gtr (x.t.den.length:Int) 1)=!lS x:=by
 unfold lS;have e1:=lD (n:=x.t.num.length) (k:=1);have e2:=lD (n:=x.t.den.length) (k:=1);rw[iQ];refine(congr (congrArg _ e1) e2).trans ?_;rw[<- Bool.decide_or,<- decide_not];exact decide_eq_decide.2 oz
theorem D5{m:Mk}:cond (cond (cond (aa .gtr (m.x.num.length:Int) 1) true (aa .gtr (m.x.den.length:Int) 1)) true (aa .gtr (m.y.num.length:Int) 1)) true (aa .gtr (m.y.den.length:Int) 1)=!kP m:=by
 unfold kP;have e1:=lD (n:=m.x.num.length) (k:=1);have e2:=lD (n:=m.x.den.length) (k:=1);have e3:=lD (n:=m.y.num.length) (k:=1);have e4:=lD (n:=m.y.den.length) (k:=1);rw[iQ,iQ,iQ];refine(congr (congrArg _ (congr (congrArg _ (congr (congrArg _ e1) e2)) e3)) e4).trans ?_;rw[<- Bool.decide_or,<- Bool.decide_or,<- Bool.decide_or,<- decide_not];exact decide_eq_decide.2 oz
theorem rG{l:Li}(hl:ax l=0):(splitG l).length<=8:=by
 unfold splitG;split
 ·exact(qe hl).2
 ·exact zero_le _
theorem U7(l:Li)(hw:l.okw)(xs:List Tn)(hxl:xs.length<=281474976710656):FP 32 [l.av,.lst 4 (xs.map Tn.av)] (bl (je l xs)):=by
 refine ah func32 ?_;refine gc (Ms l hw) ?_;refine bP ?_;refine gC (fun t21=>?_) (fun t21=>?_)
 ·have h1:=V6 t21;refine af ?_;unfold je;rw[h1];rfl
 obtain⟨g1,g2⟩:=SE t21;have hl:=wM g1 hw;have hlb:=hl.lb;refine gl ?_;refine aJ [1,2,22,23] [2] (fun(i:Nat)=>[(24,some (i64 i))]) (fun _=>[]) (fun i=>i<=xs.length/\(xs.take i).all lS=true) (fun i=>xs.length-i) 0 ⟨zero_le _,rfl⟩ ?_;rintro i ⟨hi,hj⟩ K1 J1;refine gC (fun t25=>?_) (fun t25=>?_)
 ·have hin:=aT t25;obtain⟨x,hx⟩:=aq hin;refine gi (au hx) ?_;refine gl ?_;refine bP ?_;refine gC (fun t39=>?_) (fun t39=>?_)
  ·have h1 : lS x = false := by rw [HD] at t39; exact cW t39
   refine af ?_;unfold je;rw[g1,decide_eq_true g2,lB hx h1];rfl
  have h1:lS x=true:=by rw[HD]at t39;exact c9 t39
  refine ga aE ?_;exact aD J1 (i+1) ⟨hin,mf hj hx h1⟩
 have hT:xs.all lS=true:=l7 (a5 hi t25) hj;refine gl ?_;refine aJ [1,2,42,43] [2] (fun(i:Nat)=>[(44,some (i64 i))]) (fun _=>[]) (fun i=>i<=l.bo.length/\(l.bo.take i).all (fun b=>b.pts.all kP)=true) (fun i=>l.bo.length-i) 0 ⟨zero_le _,rfl⟩ ?_;rintro i ⟨hi2,hj2⟩ K2 J2;refine gC (fun t45=>?_) (fun t45=>?_)
 ·have hin:=aT t45;obtain⟨b,hb⟩:=aq hin;have hbl:=(hl.bo b (mem_of_getElem? hb)).ll;refine gi (au hb) ?_;refine gl ?_;refine aJ [1,2,42,43,44,49,50] [2] (fun(k:Nat)=>[(51,some (i64 k))]) (fun _=>[]) (fun k=>k<=b.pts.length/\(b.pts.take k).all kP=true) (fun k=>b.pts.length-k) 0 ⟨zero_le _,rfl⟩ ?_;rintro k ⟨hk,hkj⟩ K3 J3;refine gC (fun t52=>?_) (fun t52=>?_)
  ·have hkn:=aT t52;obtain⟨p,hp⟩:=aq hkn;refine gi (au hp) ?_;refine gl ?_;refine bP ?_;refine bP ?_;refine bP ?_;refine gC (fun t80=>?_) (fun t80=>?_)
   ·have h1 : kP p = false := by rw [D5] at t80; exact cW t80
    refine af ?_;unfold je;rw[g1,decide_eq_true g2,hT,lB hb (lB hp h1)];rfl
   have h1:kP p=true:=by rw[D5]at t80;exact c9 t80
   refine ga aE ?_;exact aD J3 (k+1) ⟨hkn,mf hkj hp h1⟩
  have hP:b.pts.all kP=true:=l7 (a5 hk t52) hkj;refine ga aE ?_;exact aD J2 (i+1) ⟨hin,mf hj2 hb hP⟩
 have hL:l.bo.all (fun b=>b.pts.all kP)=true:=l7 (a5 hi2 t45) hj2;refine gc (D4 l hl) ?_;refine gC (fun t85=>?_) (fun t85=>?_)
 ·have h1:=jK t85;refine af ?_;unfold je;rw[g1,decide_eq_true g2,hT,hL,if_neg h1];rfl
 have h1:=jA t85;have hsl:=rG h1;have hld:=hl.ld;refine gc (Kq l hl h1) ?_;refine gl ?_;refine gl ?_;refine ga (dA oz) ?_;refine bF (fun _=>(O5 l hl xs hxl)) ?_;refine af ?_;unfold je yK;rw[g1,decide_eq_true g2,hT,hL,if_pos h1];rfl
section
variable{l:Li}{xs:List Tn}{s g:Nat}(W:WkC l xs s g){k:Nat}{gr:Gr}(hg:(splitG l)[k]?=some gr){j r E:Nat}{a:Aq}(Q:QInv l j r E a){n y:Nat}(ok:eG s g (n+1) y j r E=true)(hy:gr.kind≠0->0<y)
include W hg Q ok hy
theorem Vi:∃F,F<=20000000000/\uN F l k a.as false/\AB a.as/\(Lw.llq a.as.rs).length<=2/\(gr.kind≠0->F=3900000/\DyS a.as):=by
 obtain⟨⟨hE,hr,hj⟩,_⟩:=tj ok;have h3:(Lw.llq a.as.rs).length<=2:=by rw[a.llq];have:=Q.lv;omega
 have al:=Q.ab W.li (by omega:E<=50000000000) hr
 by_cases hk:gr.kind=0
 ·exact⟨E,hE,Q.sma oz (le_refl _) k false,al,h3,fun h=>absurd hk h⟩
 ·have hy:=hy hk;obtain ⟨y',rfl⟩:∃ y',y = y' + 1:=⟨y - 1,by omega⟩
  obtain⟨⟨hj,hE,hr,hX,hJ⟩,_⟩:=rq ok;exact⟨3900000,by omega,Q.sma oz hE k false,al,h3,fun _=>⟨rfl,QInv.dyS W hg Q hr hj⟩⟩
theorem Ul:uV l k (co gr xs) a.as=((fj l a.as gr (co gr xs)).map Sv.av,nG l a.as gr (co gr xs)):=by
 have _:=ok;have _:=hy;unfold uV;have hgA:iN l (k:Nat)=gr:=aB hg;rw[if_pos (Q.dy0 W.li W.sp hg false),hgA];exact Prod.ext (JJ _ _ _ _) rfl
theorem RT:FP 18 [l.av,i64 k,(co gr xs).av,a.av] (.tup [.lst 3 ((fj l a.as gr (co gr xs)).map Sv.av),bh (nG l a.as gr (co gr xs))]):=by
 obtain⟨F,hF,hs,al,h3,hR⟩:=Vi W hg Q ok hy;have hgA:iN l (k:Nat)=gr:=aB hg;have h:=PW l W.hl k (W.tn hg).1 (W.tn hg).2.1 a.as al (fun _=>h3) hF hs (fun _ h=>hR (by rw[hgA]at h;exact h));rw[Ul W hg Q ok hy,a.as_av]at h;exact h
theorem UC:∃y' j' r' E',eG s g n y' j' r' E'=true/\(y'+(if gr.kind≠0 then 1 else 0)=y)/\∀sv∈fj l a.as gr (co gr xs),QInv l j' r' E' (a.nxt gr sv):=by
 by_cases hk:gr.kind=0
 ·exact⟨y,j,r,_,(tj ok).2,by simp[hk],Q.drv W hg ok hk⟩
 ·have hy:=hy hk;obtain ⟨y',rfl⟩:∃ y',y = y' + 1:=⟨y - 1,by omega⟩
  exact⟨y',j+1,_,_,(rq ok).2,by simp[hk],Q.dy W hg ok hk⟩
end
def kM(g:Gr):Bool:=decide (g.kind≠0)
theorem HU{F:Int->Bool}{sg:Bool}{f:Sv->List Aq×Nat}{M:Nat}:∀{S:List Sv},(∀s∈S,(f s).1.length<=M)->(ff F sg f S).1.length<=S.length*M
 |[],h=>zero_le _
 |s::S,h=>by
  have h1:=h s mem_cons_self;have h2:=HU (F:=F) (sg:=sg) (S:=S) (fun x hx=>h x (mem_cons_of_mem _ hx));rw[pV,length_cons,Nat.succ_mul];split
  ·omega
  ·split
   ·omega
   ·split
    ·omega
    ·simp only[length_append];omega
structure WkSt(l:Li)(s g n:Nat)(a:Aq):Prop where
  st:∃j r E y,QInv l j r E a/\eG s g n y j r E=true/\((splitG l).drop a.ms.length).countP kM<=y
  ln:a.ms.length+n=(splitG l).length
theorem WkSt.next{l:Li}{xs:List Tn}{s g n:Nat}(W:WkC l xs s g){a:Aq}(h:WkSt l s g (n+1) a):∃gr,(splitG l)[a.ms.length]?=some gr /\
  FP 18 [l.av,i64 a.ms.length,(co gr xs).av,a.av] (.tup [.lst 3 ((fj l a.as gr (co gr xs)).map Sv.av),bh (nG l a.as gr (co gr xs))]) /\
  SolP (fj l a.as gr (co gr xs)) gr.kind a.ts.length gr.bo.length/\∀sv∈fj l a.as gr (co gr xs),WkSt l s g n (a.nxt gr sv):=by
 obtain⟨⟨j,r,E,y,Q,ok,hc⟩,hl⟩:=h;obtain⟨gr,hg⟩:=aq (l:=splitG l) (i:=a.ms.length) oz;have hdr:=tP hg;rw[hdr,List.countP_cons]at hc
 have hy:gr.kind≠0->0<y:=fun hk=>by
  have:kM gr=true:=decide_eq_true hk;rw[if_pos this]at hc;omega
 obtain⟨y',j',r',E',ok',ey,hQ⟩:=UC W hg Q ok hy;refine⟨gr,hg,RT W hg Q ok hy,S0 W hg Q ok hy,fun sv hsv=>⟨⟨j',r',E',y',hQ sv hsv,ok',?_⟩,?_⟩⟩
 ·have e : (a.nxt gr sv).ms.length = a.ms.length + 1 := by show (a.ms ++ [sv.mode]).length = _; simp
  rw[e]
  by_cases hk:gr.kind=0
  ·have h1 : kM gr = false := by unfold kM; simp [hk]
   simp only[hk,ne_eq,not_true_eq_false,if_false]at ey;rw[h1]at hc;simp only[Bool.false_eq_true,if_false]at hc;omega
  ·have h1:kM gr=true:=decide_eq_true hk;rw[if_pos hk]at ey;rw[if_pos h1]at hc;omega
 ·show(a.ms++[sv.mode]).length+n=_;rw[length_append];simp only[length_cons,length_nil];omega
theorem By{l:Li}{xs:List Tn}{s g:Nat}(W:WkC l xs s g)(F:Nat->Int->Bool)(sg:Bool):∀(n:Nat)(a:Aq),WkSt l s g n a->(f6 F sg l xs (splitG l) n a).1.length<=2^n
 |0,a,h=>le_refl _
 |n+1,a,h=>by
  obtain⟨gr,hg,_,hP,hn⟩:=h.next W;unfold f6;rw[aB hg];split
  ·exact zero_le _
  ·have h1:=HU (F:=F a.ms.length) (sg:=sg) (f:=fun sv=>f6 F sg l xs (splitG l) n (a.nxt gr sv)) (M:=2^n) (S:=fj l a.as gr (co gr xs)) (fun sv hsv=>By W F sg n _ (hn sv hsv));have h2:=mul_le_mul_right (2^n) hP.two;rw[Nat.pow_succ];omega
theorem Br{l:Li}{xs:List Tn}{s g:Nat}(W:WkC l xs s g)(F:Nat->Int->Bool)(sg:Bool){fo:FuncId}{caps:List AV}(hF:∀(k:Nat)(m:Int),k<(splitG l).length->FP fo ([i64 k,i64 m]++caps) (bl (F k m))) :
  ∀(n:Nat)(a:Aq),WkSt l s g n a->∀o:List Aq,o.length+2^n<=1000 ->
   Con prog 100 [.ptr 1000 0,a.av] (e8 l xs (splitG l) fo caps sg 1001 (o.map Aq.av)) (bh (f6 F sg l xs (splitG l) n a).2) (e8 l xs (splitG l) fo caps sg 900 ((o++(f6 F sg l xs (splitG l) n a).1).map Aq.av))
 |0,a,h,o,ho=>by
  have hG:(splitG l).length<=100:=by have:=rG W.li;omega
  obtain⟨⟨j,r,E,y,Q,ok,_⟩,hl⟩:=h;obtain⟨hE,_,_⟩:=Ve ok;have hlb:=(cA W.li).2.2.2.1;have hln:=Q.ln;have h3:=Q.tw.three;obtain⟨D,N,hD,hts,h1,h2⟩:=Q.tw.rb
  exact Mc oz hG oz (VQ (e:=5000000000+E) Q.tw.five (fun x hx=>by
   obtain⟨i,hi⟩:=getElem?_of_mem hx;have hi2:=(List.getElem?_eq_some_iff.1 hi).1;have h9:=Q.tw.len i hi2;rw[aB hi]at h9;exact⟨Q.tw.five,.inr ⟨i,by omega,h9⟩,D,N,hts x hx,le_trans h1 (bV (by have:=Q.tw.le;omega)),le_trans h2 (bV (by have:=Q.tw.le;omega))⟩)
   (fun p hp=>(Q.bs p hp).up (le_refl _) Q.tw.five oz) oz oz oz oz)
 |n+1,a,h,o,ho=>by
  have hG:(splitG l).length<=100:=by have:=rG W.li;omega
  have hlb:=(cA W.li).2.2.2.1;have hln:=h.ln;obtain⟨j,r,E,y,Q,ok,_⟩:=h.st;obtain⟨gr,hg,hS,hP,hn⟩:=h.next W;obtain⟨hdy,hgo⟩:=pM W.li (mem_of_getElem? hg);have h2:=xt W.li;have hxl:=W.ln;have hQl:=Q.ln;have hgb:=hgo.lb
  have key := Mg (l := l) (xs := xs) (G := splitG l) (fo := fo) (caps := caps) (sg := sg) (o := o) hg hG oz (fun hk => by rw [hxl]; exact GP hdy hk) hS (by have := hP.two; omega) (F := F a.ms.length) (fun m => hF _ m oz)
   (fun sv hsv => RV (fun b hb => by rw [hQl]; exact hgo.b b hb) (by
    obtain⟨i,hi⟩:=getElem?_of_mem hsv;exact(hP.md i sv hi).2.2) oz oz oz)
   (f:=fun sv=>f6 F sg l xs (splitG l) n (a.nxt gr sv)) (M:=2^n) (B:=1000) (fun sv hsv=>By W F sg n _ (hn sv hsv)) (by have:=mul_le_mul_right (2^n) hP.two;rw[Nat.pow_succ]at ho;omega)
   (fun o' ho' sv hsv=>Br W F sg hF n _ (hn sv hsv) o' ho')
  have e:f6 F sg l xs (splitG l) (n+1) a=(if nG l a.as gr (co gr xs)≠0 then([],nG l a.as gr (co gr xs))else ff (F a.ms.length) sg (fun sv=>f6 F sg l xs (splitG l) n (a.nxt gr sv)) (fj l a.as gr (co gr xs))):=by
   conv=>lhs;unfold f6
   rw[aB hg]
  rw[e]
  by_cases hE:nG l a.as gr (co gr xs)≠0
  ·rw[if_pos hE]at key ⊢;rw[if_pos hE]at key;exact key
  ·rw[if_neg hE]at key ⊢;rw[if_neg hE]at key;exact key
abbrev rc(l:Li)(xs:List Tn)(G:List Gr)(fo:FuncId)(caps:List AV)(sg:Bool)(k0 k:Nat)(es:List AV):Hp :=
  [(k0,some (.box (fi l xs G fo caps sg (.ms k 3 0 es.length)))),(k,some (.row 3 es))]
def v6(k:Nat):Nat:=bif Nat.beq k 1000 then 902 else bif Nat.beq k 902 then 1000 else pX k
theorem wT{a b:Nat}(h:¬a=b):Nat.beq a b=false:=by
 cases h1:Nat.beq a b
 ·rfl
 ·exact absurd (eq_of_beq_eq_true h1) h
theorem HM(k:Nat):v6 (v6 k)=k:=by
 by_cases h1:k=1000
 ·subst h1;rfl
 by_cases h2:k=902
 ·subst h2;rfl
 by_cases h3:k=1001
 ·subst h3;rfl
 by_cases h4:k=901
 ·subst h4;rfl
 have e:v6 k=k:=by simp only[v6,pX,wT h1,wT h2,wT h3,wT h4,cond_false]
 rw[e,e]
theorem Iq{l:Li}{xs:List Tn}{G:List Gr}{fo:FuncId}{caps:List AV}{sg:Bool}{es:List AV}(h0:0<l.bo.length)(hl:l.bo.length<=100) :
  Con prog 101 [.ptr 902 0] (rc l xs G fo caps sg 902 901 es) (eD l).av (rc l xs G fo caps sg 902 901 es):=Con.pm HM (P8 h0 hl)
theorem Ee{l:Li}{xs:List Tn}{G:List Gr}{fo:FuncId}{caps:List AV}{sg:Bool}{es es':List AV}{a:Aq}{e:Nat}
  (h:Con prog 100 [.ptr 1000 0,a.av] (e8 l xs G fo caps sg 1001 es) (bh e) (e8 l xs G fo caps sg 900 es')) :
  Con prog 100 [.ptr 902 0,a.av] (rc l xs G fo caps sg 902 901 es) (bh e) (rc l xs G fo caps sg 902 900 es'):=Con.pm HM h
def ib:Nat->Int->Bool:=fun _ _=>true
def ma(F:Nat->Int->Bool)(sg:Bool)(l:Li)(xs:List Tn):List Aq×Nat:=f6 F sg l xs (splitG l) (splitG l).length (eD l)
def j6(l:Li)(xs:List Tn):List Aq×Nat:=if cM l xs≠0 then([],cM l xs)else if(ma ib false l xs).2≠0 then([],(ma ib false l xs).2)else ma ib false l xs
theorem Tm{l:Li}{xs:List Tn}(h0:cM l xs≠0)(hop:Con prog 99 [l.av,.lst 4 (xs.map Tn.av)] [] (.tup [qH (cM l xs),bh (cM l xs)]) (tp (cM l xs) l xs)) :
  FP 33 [l.av,.lst 4 (xs.map Tn.av)] (.tup [.lst 3 [],bh (cM l xs)]):=by
 rw[lc h0,uQ h0]at hop;refine ah func33 ?_;refine gc hop ?_;refine gC (fun t16=>?_) (fun t16=>?_) (st2:=(77777,0))
 ·refine gR ?_;exact dp (Sub.tup (.cons (.nil _ _ _) (.cons (.refl _) .nil)))
 exact absurd (da t16) h0
theorem J7{l:Li}{xs:List Tn}(h0:cM l xs=0)(hop:Con prog 99 [l.av,.lst 4 (xs.map Tn.av)] [] (.tup [qH (cM l xs),bh (cM l xs)]) (tp (cM l xs) l xs))(hb:0<l.bo.length)(hl:l.bo.length<=100)
  {R:List Aq×Nat} (hw:Con prog 100 [.ptr 1000 0,(eD l).av] (e8 l xs (splitG l) 198 [] false 1001 []) (bh R.2) (e8 l xs (splitG l) 198 [] false 900 (R.1.map Aq.av))) :
  FP 33 [l.av,.lst 4 (xs.map Tn.av)] (.tup [.lst 3 ((if R.2≠0 then[]else R.1).map Aq.av),bh R.2]):=by
 rw[h0]at hop;have hop:Con prog 99 [l.av,.lst 4 (xs.map Tn.av)] [] (.tup [.ptr 900 0,.v .nilIface]) [(900,some (.box (fi l xs (splitG l) 198 [] false (nS))))]:=hop;refine ah func33 ?_;refine gt (aA hop (bp rfl rfl) aC rfl rfl) ?_;refine gC (fun t16=>?_) (fun t16=>?_) (st1:=(3,0)) (st2:=(77777,0));cases t16;refine gW (Wk.o (sl:=[(6,some (.ptr 900 0))]) (hp:=[(900,some (.box (fi l xs (splitG l) 198 [] false (nS))))])) ?_ (77777,0);refine gW (Wk.rk (k:=900) (d:=902) rfl rfl) ?_ (77777,0);refine gW (Wk.virt 901 3 rfl) ?_ (77777,0);refine gW (Wk.of (sl:=[(6,some (.ptr 902 0))]) (hp:=rc l xs (splitG l) 198 [] false 902 901 []) (.k .nil) (.cons rfl (BlkSub.bL (.cons (.refl _) (.cons (.refl _) (.cons (.refl _) (.cons (.refl _) (.cons (.refl _) (.cons (.refl _) (.cons (.refl _) (.cons (.refl _) (.cons (Sub.nM _ _ _) .nil))))))))) rfl) (.k .nil))) ?_;refine gt (x9 (Iq hb hl) (cr rfl) rfl rfl rfl rfl rfl) ?_;refine gt (aA (Ee hw) (bp rfl rfl) aC rfl rfl) ?_;refine gC (fun t23=>?_) (fun t23=>?_) (st2:=(77777,0))
 ·have hE:=cT t23;refine gR ?_;exact dp (by rw[if_pos hE];exact Sub.tup (.cons (.nil _ _ _) (.cons (.refl _) .nil)))
 have hE:=da t23;refine gW ((Wk.freeze (k:=900) rfl).trans<|Wk.of (sl:=[(6,some (.ptr 902 0))]) (hp:=[(902,some (.box (fi l xs (splitG l) 198 [] false (.lst 3 (R.1.map Aq.av)))))]) aQ (.cons rfl (BlkSub.bL (.cons (.refl _) (.cons (.refl _) (.cons (.refl _) (.cons (.refl _) (.cons (.refl _) (.cons (.refl _) (.cons (.refl _) (.cons (.refl _) (.cons (Sub.of (bI rfl)) .nil))))))))) rfl) .nil)) ?_;refine gR ?_;exact dp (Sub.of (by rw[if_neg oz,hE];rfl))
def Df(modes:List Int):Nat->Int->Bool:=fun k m=>decide (m=modes.getD k 0)
theorem Uq{l:Li}{xs:List Tn}{modes:List Int}(hml:modes.length<=100)(h0:cM l xs=0)(hop:Con prog 99 [l.av,.lst 4 (xs.map Tn.av)] [] (.tup [qH (cM l xs),bh (cM l xs)]) (tp (cM l xs) l xs))(hb:0<l.bo.length)(hl:l.bo.length<=100)(hsl:(splitG l).length<=100)
  {R:List Aq×Nat} (hw:modes.length=(splitG l).length->Con prog 100 [.ptr 1000 0,(eD l).av] (e8 l xs (splitG l) 223 [.iptr [.lst 1 (modes.map i64)]] true 1001 []) (bh R.2) (e8 l xs (splitG l) 223 [.iptr [.lst 1 (modes.map i64)]] true 900 (R.1.map Aq.av))) (hR:R.1.length<=1000) :
  FP 109 [l.av,.lst 4 (xs.map Tn.av),.lst 1 (modes.map i64)] (.tup [(if modes.length≠(splitG l).length then Aq.mk [] [] []else if R.2≠0 then Aq.mk [] [] []else R.1.getD 0 (Aq.mk [] [] [])).av,bh (if modes.length≠(splitG l).length then 10 else if R.2≠0 then R.2 else if R.1=[]then 16 else 0)]):=by
 rw[h0]at hop;have hop:Con prog 99 [l.av,.lst 4 (xs.map Tn.av)] [] (.tup [.ptr 900 0,.v .nilIface]) [(900,some (.box (fi l xs (splitG l) 198 [] false (nS))))]:=hop;refine ah func109 ?_;refine gt (aA hop (bp rfl rfl) aC rfl rfl) ?_;refine gC (fun t18=>?_) (fun t18=>?_) (st1:=(3,0)) (st2:=(77777,0));cases t18;refine gW (Wk.o (sl:=[(5,some (.ptr 5 0)),(6,some (.ptr 6 0)),(8,some (.ptr 900 0))]) (hp:=[(5,some (.box [.lst 1 (modes.map i64)])),(6,some (.box [nS,nS,nS])),(900,some (.box (fi l xs (splitG l) 198 [] false (nS))))])) ?_ (77777,0);refine gW (Wk.rk (k:=900) (d:=902) rfl rfl) ?_;refine gl ?_;refine gl ?_;refine gD ?_;refine gC (fun t28=>?_) (fun t28=>?_) (st2:=(77777,0))
 ·have h1:=vQ t28;refine gR ?_;exact dp (by rw[if_pos h1,if_pos h1];exact Sub.tup (.cons (Sub.agg (.cons (.nil _ _ _) (.cons (.nil _ _ _) (.cons (.nil _ _ _) .nil))) rfl) (.cons (.refl _) .nil)))
 have h1:=AK t28;have hm:¬(modes.length≠(splitG l).length):=fun h=>h h1
 refine gW ((Wk.freezeB (k:=5) rfl rfl).trans<|Wk.o (sl:=[(5,some (.iptr [.lst 1 (modes.map i64)])),(6,some (.ptr 6 0)),(8,some (.ptr 902 0))]) (hp:=[(6,some (.box [nS,nS,nS])),(902,some (.box (fi l xs (splitG l) 198 [] false (nS))))])) ?_ (7,0);refine gW (Wk.of (sl:=[(6,some (.ptr 6 0)),(8,some (.ptr 902 0))]) (hp:=[(6,some (.box [nS,nS,nS])),(902,some (.box (fi l xs (splitG l) 223 [.iptr [.lst 1 (modes.map i64)]] true (nS))))]) aQ (.k (.cons rfl (BlkSub.bL (.cons (.refl _) (.cons (.refl _) (.cons (.refl _) (.cons (.refl _) (.cons (.refl _) (.cons (.refl _) (.cons (tc rfl) (.cons (.refl _) (.cons (.refl _) .nil))))))))) rfl) .nil))) ?_ (7,0)
 refine gW (Wk.virt 901 3 rfl) ?_ (7,0);refine gW (Wk.of (sl:=[(6,some (.ptr 6 0)),(8,some (.ptr 902 0))]) (hp:=(6,some (.box [nS,nS,nS]))::rc l xs (splitG l) 223 [.iptr [.lst 1 (modes.map i64)]] true 902 901 []) (.k (.k .nil)) (.k (.cons rfl (BlkSub.bL (.cons (.refl _) (.cons (.refl _) (.cons (.refl _) (.cons (.refl _) (.cons (.refl _) (.cons (.refl _) (.cons (.refl _) (.cons (.refl _) (.cons (Sub.nM _ _ _) .nil))))))))) rfl) (.k .nil)))) ?_
 refine gt (x9 (Iq hb hl) (cr rfl) rfl rfl rfl rfl rfl) ?_;refine gt (aA (Ee (hw h1)) (bp rfl rfl) aC rfl rfl) ?_;refine gC (fun t43=>?_) (fun t43=>?_) (st2:=(77777,0))
 ·have hE:=cT t43;refine gR ?_;exact dp (by rw[if_neg hm,if_neg hm,if_pos hE,if_pos hE];exact Sub.tup (.cons (Sub.agg (.cons (.nil _ _ _) (.cons (.nil _ _ _) (.cons (.nil _ _ _) .nil))) rfl) (.cons (.refl _) .nil)))
 have hE:=da t43;have hE':¬(R.2≠0):=fun h=>h hE
 refine gW ((Wk.freeze (k:=900) rfl).trans<|Wk.of (sl:=[(6,some (.ptr 6 0)),(8,some (.ptr 902 0))]) (hp:=[(6,some (.box [nS,nS,nS])),(902,some (.box (fi l xs (splitG l) 223 [.iptr [.lst 1 (modes.map i64)]] true (.lst 3 (R.1.map Aq.av)))))]) aQ (.k (.cons rfl (BlkSub.bL (.cons (.refl _) (.cons (.refl _) (.cons (.refl _) (.cons (.refl _) (.cons (.refl _) (.cons (.refl _) (.cons (.refl _) (.cons (.refl _) (.cons (Sub.of (bI rfl)) .nil))))))))) rfl) .nil))) ?_
 refine gl ?_;refine gC (fun t51=>?_) (fun t51=>?_)
 ·have h2 : R.1=[] := List.length_eq_zero_iff.1 (by simpa[aa]using t51);refine gR ?_;exact dp (by rw[if_neg hm,if_neg hm,if_neg hE',if_neg hE',if_pos h2,h2];exact Sub.tup (.cons (Sub.agg (.cons (.nil _ _ _) (.cons (.nil _ _ _) (.cons (.nil _ _ _) .nil))) rfl) (.cons (.refl _) .nil)))
 have h2:R.1≠[]:=fun h=>by rw[h]at t51;exact absurd t51 (by simp[aa])
 obtain⟨a0,ha0⟩:=aq (l:=R.1) (i:=0) (by cases hh:R.1 with |nil=>exact absurd hh h2 |cons _ _=>simp);refine gi (au ha0) ?_;refine gR ?_;exact dp (Sub.of (by rw[if_neg hm,if_neg hm,if_neg hE',if_neg hE',if_neg h2,aB ha0];rfl))
end Go.Lw
