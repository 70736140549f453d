/- AssembleOnes: for any linkage, any turns and any modes the law returns true and leaves its arguments as they were. No other condition. Part 7 of 8: what the later parts need -/
import Derived.Test.YtlilpljpajeafaaGreatYf
set_option linter.unusedVariables false
open List (mem_of_getElem? mem_cons_of_mem mem_append map_cons mem_cons length_cons mem_cons_self length_append length_nil getD_eq_getElem?_getD getElem?_eq_none getElem?_take getElem?_map append_assoc getElem?_eq_getElem nil_append getElem?_replicate append_nil map_append length_take take_of_length_le drop_zero take_length map_nil not_mem_nil length_map mem_of_mem_take map_take map_map map_replicate map_set drop_length length_set)
open Nat (eq_of_beq_eq_true le_refl lt_or_ge le_trans mul_le_mul_right zero_le pow_add)
open Option (map_eq_some_iff)
open Bool (and_eq_true or_eq_true)
open Int (toNat_natCast)
open Go.Proofs.Tryz
namespace Go.Lw
open Go.Proofs
theorem D7{ts:LL}{r e:Nat}(tw:Tw ts r){a b c:List Rat}(ha:Nm ts.length e a)(hb:Nm ts.length e b)(hc:Nm ts.length e c)(he:2*(e+e+kB r ts.length)<=lm ts.length) :
  FP 152 [an ts,nA a,ao b c] (.tup [ao (sh ts.length (T.mul (aj ts) ts.length (ad ts.length a) (ad ts.length b))) (sh ts.length (T.mul (aj ts) ts.length (ad ts.length a) (ad ts.length c))),.v .nilIface]):=by
 refine af func152 ?_;refine gc (vn (e:=e) tw [a,b,c] (by simp only[mem_cons,not_mem_nil,or_false];rintro x (rfl |rfl |rfl) <;> assumption) oz (by simp)) ?_;refine gC (fun t19=>?_) (fun t19=>?_) (st1:=(3,0));cases t19;refine gt (aJ (Con.rB 24 rfl rfl rfl rfl (kW tw ha hb oz)) (aL rfl rfl rfl) aM rfl rfl) ?_;refine gt (aJ (Con.rB 24 rfl rfl rfl rfl (kW tw ha hc oz)) (aL rfl rfl rfl) aM rfl rfl) ?_;refine gt (aJ (Con.rB 24 rfl rfl rfl rfl (xB _ _ _)) (bA rfl rfl) aM rfl rfl) ?_;refine gD ?_;refine bf ?_;rfl
section
variable{ts:LL}
def uv(q w1 w2 h:Et ts):Et ts:=q*w1-h*-w2
def un(q w1 w2 h:Et ts):Et ts:=q*w2-h*w1
def jZ(ts:LL)(q h d:List Rat)(w:List Rat×List Rat):P2 ts:=(uv (dE ts q) (dE ts w.1) (dE ts w.2) (dE ts h)*iE (dE ts d),un (dE ts q) (dE ts w.1) (dE ts w.2) (dE ts h)*iE (dE ts d))
structure Rp where
  v:Rat×Rat
  p:Rat×Rat
  a:List Rat×List Rat
  h:List Rat
  d:List Rat
  w:List Rat×List Rat
def sZ(ts:LL)(R:Rp)(q:List Rat):Pq:=lC R.v (jZ ts q R.h R.d R.w) R.p (dE ts R.a.1,dE ts R.a.2)
structure RqP(ts:LL)(R:Rp)(q:List Rat):Prop where
  sm:Sm 3000 R.v
  sp:Sm 3000 R.p
  c1:FP 152 [an ts,nA q,ao R.w.1 R.w.2] (.tup [ao (sX (dE ts q*dE ts R.w.1)) (sX (dE ts q*dE ts R.w.2)),.v .nilIface])
  ng:FP 138 [an ts,nA R.w.2] (.tup [nA (sX (-dE ts R.w.2)),.v .nilIface])
  c2:FP 152 [an ts,nA R.h,ao (sX (-dE ts R.w.2)) R.w.1] (.tup [ao (sX (dE ts R.h*-dE ts R.w.2)) (sX (dE ts R.h*dE ts R.w.1)),.v .nilIface])
  sb:FP 73 [an ts,ao (sX (dE ts q*dE ts R.w.1)) (sX (dE ts q*dE ts R.w.2)),ao (sX (dE ts R.h*-dE ts R.w.2)) (sX (dE ts R.h*dE ts R.w.1))] (.tup [ao (sX (uv (dE ts q) (dE ts R.w.1) (dE ts R.w.2) (dE ts R.h))) (sX (un (dE ts q) (dE ts R.w.1) (dE ts R.w.2) (dE ts R.h))),.v .nilIface])
  d1:FP 271 [an ts,nA (sX (uv (dE ts q) (dE ts R.w.1) (dE ts R.w.2) (dE ts R.h))),nA R.d] (.tup [nA (sX (jZ ts q R.h R.d R.w).1),.v .nilIface])
  d2:FP 271 [an ts,nA (sX (un (dE ts q) (dE ts R.w.1) (dE ts R.w.2) (dE ts R.h))),nA R.d] (.tup [nA (sX (jZ ts q R.h R.d R.w).2),.v .nilIface])
  e1:sX (dE ts R.a.1)=R.a.1
  e2:sX (dE ts R.a.2)=R.a.2
  b:BdP ts R.v (jZ ts q R.h R.d R.w) R.p (dE ts R.a.1,dE ts R.a.2)
theorem RqP.body{R:Rp}{q:List Rat}(H:RqP ts R q) :
  Con prog 143 [.ptr 1000 0,qP R.v,bJ (jZ ts q R.h R.d R.w).l,qP R.p,ao R.a.1 R.a.2] [(1000,some (a9 ts))] (sZ ts R q).av [(1000,some (a9 ts))]:=by
 have hb:=yM H.sm H.sp H.b
 have e:bJ (P2.l ((dE ts R.a.1,dE ts R.a.2):P2 ts))=ao R.a.1 R.a.2:=by
  show ao (sX (dE ts R.a.1)) (sX (dE ts R.a.2))=_;rw[H.e1,H.e2]
 rw[e]at hb;exact hb
theorem CZ{R:Rp}{q:List Rat}{j:Nat}(cy:Cy ts 773000000 1101400000)(sm:Sm 3000 R.v)(sp:Sm 3000 R.p)(h0:bF R.v R.v≠0)(nq:Nm ts.length 773000000 q)(nh:Nm ts.length 773000000 R.h)(nd:Nm ts.length 773000000 R.d)
  (n1:Nm ts.length 773000000 R.w.1) (n2:Nm ts.length 773000000 R.w.2) (a1:Nm ts.length 773000000 R.a.1) (a2:Nm ts.length 773000000 R.a.2) (e1:sX (dE ts R.a.1)=R.a.1) (e2:sX (dE ts R.a.2)=R.a.2)
  (nj:Nl j R.d) (hj:j<=ts.length) (hj1:j<=1) (hd:ak (dE ts R.d)≠0):RqP ts R q:=by
 obtain⟨r,tw,hk⟩:=cy.ex;have hl:=cy.lm;haveI:=cy;haveI zq:Zl ts 773000000 1101400000 q (dE ts q) 1 0:=Zl.at nq (le_refl _);haveI zh:Zl ts 773000000 1101400000 R.h (dE ts R.h) 1 0:=Zl.at nh (le_refl _);haveI zd:Zl ts 773000000 1101400000 R.d (dE ts R.d) 1 0:=Zl.at nd (le_refl _);haveI z1:Zl ts 773000000 1101400000 R.w.1 (dE ts R.w.1) 1 0:=Zl.at n1 (le_refl _);haveI z2:Zl ts 773000000 1101400000 R.w.2 (dE ts R.w.2) 1 0:=Zl.at n2 (le_refl _);haveI:=zq.zu;haveI:=zh.zu;haveI:=z1.zu;haveI:=z2.zu
 haveI zn:Zu 773000000 1101400000 (-dE ts R.w.2) 1 0:=inferInstance;haveI y1:Zu 773000000 1101400000 (dE ts q*dE ts R.w.1) 2 1:=inferInstance;haveI y2:Zu 773000000 1101400000 (dE ts q*dE ts R.w.2) 2 1:=inferInstance;haveI y3:Zu 773000000 1101400000 (dE ts R.h*-dE ts R.w.2) 2 1:=inferInstance;haveI y4:Zu 773000000 1101400000 (dE ts R.h*dE ts R.w.1) 2 1:=inferInstance;haveI x1:Zu 773000000 1101400000 (uv (dE ts q) (dE ts R.w.1) (dE ts R.w.2) (dE ts R.h)) 4 3:=(inferInstance:Zu 773000000 1101400000 (dE ts q*dE ts R.w.1-dE ts R.h*-dE ts R.w.2) 4 3)
 haveI x2:Zu 773000000 1101400000 (un (dE ts q) (dE ts R.w.1) (dE ts R.w.2) (dE ts R.h)) 4 3:=(inferInstance:Zu 773000000 1101400000 (dE ts q*dE ts R.w.2-dE ts R.h*dE ts R.w.1) 4 3)
 have ew:∀x:Et ts,ad ts.length (sX x)=x:=fun x=>bq _ _
 have hkB:kB r ts.length<=1101400000:=hk;have c1:=D7 tw nq n1 n2 (by rw[hl];omega);have ng:=Eg (ts:=ts) (u:=773000000) (k:=1101400000) (a:=R.w.2) (by decide);have nn:Nm ts.length 773000000 (sX (-dE ts R.w.2)):=zn.nm.mono (by decide);have c2:=D7 tw nh nn n1 (by rw[hl];omega);rw[ew]at c2;have sb:=GS (a:=sX (dE ts q*dE ts R.w.1)) (b:=sX (dE ts q*dE ts R.w.2)) (c:=sX (dE ts R.h*-dE ts R.w.2)) (d:=sX (dE ts R.h*dE ts R.w.1)) tw y1.nm y2.nm y3.nm y4.nm (by rw[hl];decide);rw[ew,ew,ew,ew]at sb;have d1:=ot (ts:=ts) (u:=773000000) (k:=1101400000) (a:=sX (uv (dE ts q) (dE ts R.w.1) (dE ts R.w.2) (dE ts R.h))) (b:=R.d) nj hj hj1 hd (by decide);have d2:=ot (ts:=ts) (u:=773000000) (k:=1101400000) (a:=sX (un (dE ts q) (dE ts R.w.1) (dE ts R.w.2) (dE ts R.h))) (b:=R.d) nj hj hj1 hd (by decide);exact⟨sm,sp,c1,ng,c2,sb,d1.1,d2.1,e1,e2,GY tw cy.two hkB sm sp h0 (d1.2.nm.mono (by decide)) (d2.2.nm.mono (by decide)) (by show Nm ts.length 773000000 (sX (dE ts R.a.1));rw[e1];exact a1) (by show Nm ts.length 773000000 (sX (dE ts R.a.2));rw[e2];exact a2)⟩
end
def kj(ts:LL)(R:Rp)(qs:LL)(i:Nat):Sv:=⟨ts,[sZ ts R (qs.getD i [])],if qs.length=1 then 0 else 1-2*(i:Int)⟩
def ia(ts:LL)(R:Rp)(qs:LL)(n:Nat):List AV:=(List.range n).map fun i=>(kj ts R qs i).av
theorem rc(ts:LL)(R:Rp)(qs:LL)(n:Nat):(ia ts R qs n).length=n:=by simp[ia]
theorem FC(ts:LL)(R:Rp)(qs:LL)(n:Nat):ia ts R qs (n+1)=ia ts R qs n++[(kj ts R qs n).av]:=by unfold ia;rw[List.range_succ];simp
def dl(l:Li)(a:As)(i:Int)(j0 j:Jt):Rp:=⟨fF l i j,ah l j0 i,P2.l (am l a j0 i),sh 0 (cM l i j0 j:Rat),sX (cK l a i j0 j),P2.l (er l a i j0 j)⟩
def aU(l:Li)(a:As)(i:Int)(j0 j:Jt):Et (llq a.rs):=qE (iz l i j)*cK l a i j0 j-qE (cM l i j0 j)*qE (cM l i j0 j)
def fy(l:Li)(a:As)(i:Int)(j0 j:Jt):List AV×Nat :=
  if ak (cK l a i j0 j)=0/\ak (qE (cM l i j0 j):Et (llq a.rs))=0 then([],15)
  else if ak (aU l a i j0 j)<0 then([],0)
  else if 0<ak (aU l a i j0 j)then(ia (aI (llq a.rs) (sX (aU l a i j0 j))) (dl l a i j0 j) [cc (llq a.rs).length,sX (-bK (aU l a i j0 j))] 2,0)
  else(ia (llq a.rs) (dl l a i j0 j) [[]] 1,0)
theorem uN{ts:LL}{r:Nat}(tw:Tw ts r){n d h:Et ts}(hs:¬ak (n*d-h*h)<0)(h1:¬(ak d=0/\ak h=0)):ak d≠0:=by
 intro h0;have S:=mu (aj ts) ts.length tw.pos
 have e1:sg (aj ts) ts.length (n*d)=0:=by
  rw[S.mul];have:sg (aj ts) ts.length d=0:=h0;rw[this];exact Int.mul_zero _
 have e2:=S.zadd (y:=-(h*h)) e1;rw[show n*d+-(h*h)=n*d-h*h by grind,S.neg,S.mul]at e2;have e3:ak (n*d-h*h)=sg (aj ts) ts.length (n*d-h*h):=rfl;have e4:ak h=sg (aj ts) ts.length h:=rfl;have h2:sg (aj ts) ts.length h≠0:=fun h9=>h1 ⟨h0,by rw[e4];exact h9⟩
 rw[e3,e2]at hs;rcases S.cs h with g |g |g
 ·rw[g]at hs;exact hs (by decide)
 ·exact h2 g
 ·rw[g]at hs;exact hs (by decide)
theorem Ti{p q:Rat}(h:p*p+q*q=0):p=0/\q=0:=by
 have h1:=xq p;have h2:=xq q;have h3:p*p=0:=by grind
 have h4:q*q=0:=by grind
 exact⟨by rcases Rat.mul_eq_zero.1 h3 with g |g <;> exact g,by rcases Rat.mul_eq_zero.1 h4 with g |g <;> exact g⟩
theorem Hj{l:Li}(hli:aG l=0){n:Nat}{j:Jt}(hj:l.jo[n]?=some j)(hk:j.kind≠0){i:Int}(hi:j.b=i):bF (fF l i j) (fF l i j)≠0:=by
 intro h0;obtain⟨h1,h2⟩:=Ti h0;have h3:=C8 hli hj;subst hi;have e1:(ax l j.b j.to).1-(ax l j.b j.on).1=0:=h1;have e2:(ax l j.b j.to).2-(ax l j.b j.on).2=0:=h2;have e3:((cF l j.b).getD j.on.toNat default).x.q=((cF l j.b).getD j.to.toNat default).x.q:=by unfold ax at e1;dsimp only at e1;grind
 have e4:((cF l j.b).getD j.on.toNat default).y.q=((cF l j.b).getD j.to.toNat default).y.q:=by unfold ax at e2;dsimp only at e2;grind
 unfold d9 at h3;split at h3
 ·cases h3
 ·split at h3
  ·cases h3
  ·split at h3
   ·cases h3
   ·split at h3
    ·cases h3
    ·split at h3
     ·cases h3
     ·first |(rw[VQ ⟨e3,e4⟩]at h3;cases h3) |(split at h3 <;> first |(cases h3;done) |(rename_i g;exact absurd ⟨e3,e4⟩ g))
theorem Ju:Sub (.lst 1 [nS]) (.lst 1 [nA []]):=by
 refine Sub.lst rfl (fun i x y hx hy=>?_)
 match i,hx,hy with
 |0,hx,hy =>
  cases hx;cases hy
  refine⟨rfl,fun j x y hx hy=>?_⟩
  match j,hx,hy with
  |0,hx,hy=>cases hx;cases hy;exact⟨rfl,.nil _ _ _⟩
theorem KN{x y:Int}(h:cond (aa .eql x 0) (aa .eql y 0) false=true):x=0/\y=0:=by
 cases h1:aa .eql x 0
 ·rw[h1]at h;cases h
 ·rw[h1]at h;exact⟨bV h1,bV h⟩
theorem SJ{x y:Int}(h:cond (aa .eql x 0) (aa .eql y 0) false=false):¬(x=0/\y=0):=by
 rintro⟨rfl,rfl⟩;cases h
structure RpF(l:Li)(a:As)(i:Int)(j0 j:Jt):Prop where
  hv:Sm 3000 (fF l i j)
  hp:Sm 3000 (ah l j0 i)
  vv:bF (fF l i j) (fF l i j)≠0
  zl:Zl (llq a.rs) 310000 65000 (sh 0 (cM l i j0 j:Rat)) (qE (cM l i j0 j)) 3 0
  z3:Zu 310000 65000 (cK l a i j0 j) 320 327
  zX:Zu 310000 65000 (aU l a i j0 j) 976 989
  w1:Zu 310000 65000 (er l a i j0 j).1 80 81
  w2:Zu 310000 65000 (er l a i j0 j).2 80 81
  y1:Zu 310000 65000 (am l a j0 i).1 40 40
  y2:Zu 310000 65000 (am l a j0 i).2 40 40
theorem yt{l:Li}{a:As}(D:DyR l a)(hn:(llq a.rs).length<=1){g:Gr}{i z0 z1:Int}{j0 j:Jt}(P:SlP 3900000 l a g 3 i z0 z1 j0 j)(hj:j.b=i)(hb:Pd 3900000 a j.a):RpF l a i j0 j:=by
 haveI c:=D.s.ct D.hc;have ck:=c.k1;haveI cy:Cy (llq a.rs) 310000 65000:=⟨c.ex,c.k1,c.u3,by omega⟩
 have hs0:Sm 1000 (ah l j0 i):=dL D.hl D.li P.h0 P.p0.or;obtain⟨i1,i2,i3,i4,i5⟩:=dm D.li P.h1;have hs1:Sm 1000 (ax l i j.on):=by rw[<- hj];exact gI D.hl D.li i2 i4
 have hs2:Sm 1000 (ax l i j.to):=by rw[<- hj];exact gI D.hl D.li i2 (i5 P.hk)
 have hv:Sm _ (fF l i j):=hs2.sub hs1;haveI qn:Qz 310000 (iz l i j) 3:=lU (hv.dot hv) oz;haveI qh:Qz 310000 (cM l i j0 j) 3:=lU (hv.cross (hs1.sub hs0)) oz;obtain⟨w1,w2⟩:=CC D P.h0 P.p0 P.h1 hb;obtain⟨y1,y2⟩:=gO D.hl D.li D.al D.s D.hc P.h0 P.p0;haveI:=w1;haveI:=w2
 haveI z3:Zu 310000 65000 (cK l a i j0 j) 320 327:=(inferInstance:Zu 310000 65000 (dotE (er l a i j0 j).1 (er l a i j0 j).2 (er l a i j0 j).1 (er l a i j0 j).2) _ _)
 exact⟨hv.mono oz,hs0.mono oz,Hj D.li P.h1 P.hk hj,Cy.zq,z3,BR (inferInstance:Zu 310000 65000 (qE (iz l i j)*cK l a i j0 j-qE (cM l i j0 j)*qE (cM l i j0 j)) _ _) (by decide) (by decide),w1,w2,y1,y2⟩
theorem HF{l:Li}{a:As}{i:Int}{j0 j:Jt}(F:RpF l a i j0 j)(tw:Tw (llq a.rs) 64990)(hn:(llq a.rs).length<=1)(hd0:ak (cK l a i j0 j)≠0)(hp:0<=ak (aU l a i j0 j)) :
  ExtP (aU l a i j0 j)/\RqP (aI (llq a.rs) (sX (aU l a i j0 j))) (dl l a i j0 j) (cc (llq a.rs).length)/\RqP (aI (llq a.rs) (sX (aU l a i j0 j))) (dl l a i j0 j) (sX (-bK (aU l a i j0 j))) /\
  FP 138 [an (aI (llq a.rs) (sX (aU l a i j0 j))),nA (cc (llq a.rs).length)] (.tup [nA (sX (-bK (aU l a i j0 j))),.v .nilIface]):=by
 have E:ExtP (aU l a i j0 j):=oI tw hn F.zX hp;have ce:=E.cy;have zr:Nm (aI (llq a.rs) (sX (aU l a i j0 j))).length 773000000 (cc (llq a.rs).length):=(n8 oz).mono (by decide);haveI zrl:Zl (aI (llq a.rs) (sX (aU l a i j0 j))) 773000000 1101400000 (cc (llq a.rs).length) (bK (aU l a i j0 j)) 1 0:=Zl.at zr (by decide);haveI:=zrl.zu;have hng:=Eg (ts:=aI (llq a.rs) (sX (aU l a i j0 j))) (u:=773000000) (k:=1101400000) (a:=cc (llq a.rs).length) (by decide);have zn:Nm (aI (llq a.rs) (sX (aU l a i j0 j))).length 773000000 (sX (-bK (aU l a i j0 j))):=(inferInstance:Zu 773000000 1101400000 (-bK (aU l a i j0 j)) 1 0).nm.mono (by decide)
 have hR:∀q,Nm (aI (llq a.rs) (sX (aU l a i j0 j))).length 773000000 q->RqP (aI (llq a.rs) (sX (aU l a i j0 j))) (dl l a i j0 j) q:=fun q nq =>
  CZ (R := dl l a i j0 j) (j := (llq a.rs).length) ce F.hv F.hp F.vv nq (fH (F.zl.nm.mono (by decide)) oz) (fH (F.z3.nm.mono (by decide)) oz) (fH (F.w1.nm.mono (by decide)) oz) (fH (F.w2.nm.mono (by decide)) oz)
   (fH (F.y1.nm.mono (by decide)) oz) (fH (F.y2.nm.mono (by decide)) oz) (nB hn _ _ F.y1.nm).2 (nB hn _ _ F.y2.nm).2 F.z3.nm.nl (by rw[ep];omega) hn (by rw[show ak (dE (aI (llq a.rs) (sX (aU l a i j0 j))) (dl l a i j0 j).d)=ak (cK l a i j0 j)from tT];exact hd0)
 exact⟨E,hR _ zr,hR _ zn,hng⟩
theorem HU{l:Li}{a:As}{i:Int}{j0 j:Jt}(F:RpF l a i j0 j)(tw:Tw (llq a.rs) 64990)(hn:(llq a.rs).length<=1)(hd0:ak (cK l a i j0 j)≠0):Cy (llq a.rs) 773000000 1101400000/\RqP (llq a.rs) (dl l a i j0 j) []:=by
 have cs:Cy (llq a.rs) 773000000 1101400000:=⟨⟨64990,tw,by show kB 64990 (llq a.rs).length<=_;have:=uY hn;omega⟩,by omega,by omega,by omega⟩
 have nil0:Nm (llq a.rs).length 773000000 []:=⟨tw.five,.inl rfl,Cb.nil.mono oz⟩
 exact ⟨cs, CZ (R := dl l a i j0 j) (j := (llq a.rs).length) cs F.hv F.hp F.vv nil0 (F.zl.nm.mono (by decide)) (F.z3.nm.mono (by decide)) (F.w1.nm.mono (by decide)) (F.w2.nm.mono (by decide))
   (F.y1.nm.mono (by decide)) (F.y2.nm.mono (by decide)) (rN _ _ F.y1.nm).2 (rN _ _ F.y2.nm).2 F.z3.nm.nl (le_refl _) hn (by rw[show ak (dE (llq a.rs) (dl l a i j0 j).d)=ak (cK l a i j0 j)from congrArg ak (bq _ _)];exact hd0)⟩
theorem Of{l:Li}{a:As}(D:DyR l a)(hn:(llq a.rs).length<=1){i z0 z1:Int}{j0 j:Jt}(hg:GrOk l ⟨3,[i],[z0,z1],0⟩)(P:SlP 3900000 l a ⟨3,[i],[z0,z1],0⟩ 3 i z0 z1 j0 j)(hj:j.b=i)(hb:Pd 3900000 a j.a) :
  Con prog 65 [.ptr 1000 0] [(1000,some (cC l ⟨3,[i],[z0,z1],0⟩ a))] (ra (fy l a i j0 j)) [(1000,some (cC l ⟨3,[i],[z0,z1],0⟩ a))]:=by
 haveI c:=D.s.ct D.hc;obtain⟨tw,etw⟩:=bN D.s.tr D.hc;haveI cy:Cy (llq a.rs) 310000 65000:=⟨c.ex,c.k1,c.u3,by omega⟩
 have hlm:=cy.lm;have F:=yt D hn P hj hb;obtain⟨i1,i2,i3,i4,i5⟩:=dm D.li P.h1;have hs0:Sm 1000 (ah l j0 i):=dL D.hl D.li P.h0 P.p0.or;have hs1:Sm 1000 (ax l i j.on):=by rw[<- hj];exact gI D.hl D.li i2 i4
 have hs2:Sm 1000 (ax l i j.to):=by rw[<- hj];exact gI D.hl D.li i2 (i5 P.hk)
 have hv:Sm _ (fF l i j):=hs2.sub hs1;haveI qn:Qz 310000 (iz l i j) 3:=lU (hv.dot hv) oz;haveI qh:Qz 310000 (cM l i j0 j) 3:=lU (hv.cross (hs1.sub hs0)) oz;haveI z3:=F.z3;haveI zX:=F.zX;haveI zl:=F.zl;have hrr:=Pg D (i:=i) (j0:=j0) (j:=j) (by decide);have m1:=z6 (ts:=llq a.rs) (u:=310000) (k:=65000) (a:=sX (aU l a i j0 j)) (by decide);have m2:=z6 (ts:=llq a.rs) (u:=310000) (k:=65000) (a:=sX (cK l a i j0 j)) (by decide);have m3:=z6 (ts:=llq a.rs) (u:=310000) (k:=65000) (a:=sh 0 (cM l i j0 j:Rat)) (by decide);refine gF func65 (fun k z h=>bB h) ?_ (2,0);refine gW (Wk.o (sl:=[(0,some (.ptr 1000 0)),(4,some (.ptr 24 0))]) (hp:=[(1000,some (cC l ⟨3,[i],[z0,z1],0⟩ a)),(24,some (dU a.rs))])) ?_;refine gt (aJ (Con.rekeyBB 1000 24 (by decide) (by decide) rfl rfl rfl rfl rfl rfl (P6 D hg P.h0 P.h1 P.p0 hj P.hk hb)) (bA rfl rfl) aM rfl rfl) ?_;refine gt (aJ (Con.rekeyB1 24 rfl rfl rfl rfl rfl hrr) (bA rfl rfl) aM rfl rfl) ?_ (4,0);refine gW (Wk.of (sl:=[(4,some (.ptr 24 0)),(5,some (.ptr 5 0)),(6,some (nA (sX (aU l a i j0 j))))]) (hp:=[(1000,some (cC l ⟨3,[i],[z0,z1],0⟩ a)),(5,some (.box (v8 l a i j0 j))),(24,some (a9 (llq a.rs)))]) aR (.k (.k (.cons rfl (BlkSub.bL (.cons (.of (gY etw)) (.cons (.refl _) .nil)) rfl) .nil)))) ?_;refine gt (aX (Con.rB 24 rfl rfl rfl rfl m1) (bA rfl rfl) rfl rfl rfl) ?_;refine gC (fun t34=>?_) (fun t34=>?_) (st1:=(6,0));cases t34;refine gt (aX (Con.rB 24 rfl rfl rfl rfl m2) (bA rfl rfl) rfl rfl rfl) ?_;refine gu (ez rfl rfl rfl (fun h=>aX (Con.rB 24 rfl rfl rfl rfl m3) (.cons (.opt rfl (o1 h)) (.cons (.opt rfl (o1 h)) .nil)) rfl rfl rfl)) ?_;refine gC (fun t44=>?_) (fun t44=>?_)
 ·have h1:=KN t44;refine gR ?_;exact(aA.keep (bi rfl)).sub (by unfold fy;rw[VQ h1];exact Sub.tup (.cons (.nil _ _ _) (.cons (.refl _) .nil)))
 have h1:=SJ t44;refine gC (fun t58=>?_) (fun t58=>?_)
 ·have h2:ak (aU l a i j0 j)<0:=of_decide_eq_true t58;refine gR ?_;exact(aA.keep (bi rfl)).sub (by unfold fy;rw[VP h1,VQ h2];exact Sub.tup (.cons (.nil _ _ _) (.cons (.refl _) .nil)))
 have h2:¬ak (aU l a i j0 j)<0:=of_decide_eq_false t58;have hd0:ak (cK l a i j0 j)≠0:=uN tw h2 h1;refine uF [4,5] [1000,5] (fun(T:LL)(qs:LL)=>[(8,some (.lst 1 (qs.map nA)))]) (fun T _=>[(24,some (a9 T))]) (fun T qs=>Cy T 773000000 1101400000/\qs.length<=2/\(∀q∈qs,RqP T (dl l a i j0 j) q)/\fy l a i j0 j=(ia T (dl l a i j0 j) qs qs.length,0)) ?_ ?_
 ·intro K1 J1;refine gC (fun t63=>?_) (fun t63=>?_)
  ·have h3:0<ak (aU l a i j0 j):=of_decide_eq_true t63;obtain⟨E,R1,R2,hng⟩:=HF F tw hn hd0 oz;have ce:=E.cy;have hex:=Hs (a:=sX (aU l a i j0 j)) tw zX.nm (by rw[hlm];decide) (by rw[show ad (llq a.rs).length (sX (aU l a i j0 j))=aU l a i j0 j from bq _ _];show 0<=ak (aU l a i j0 j);omega);refine gc hex ?_;refine gC (fun t75=>?_) (fun t75=>?_) (st1:=(15,0));cases t75;refine gc hng ?_;refine gt (aX (Con.rB 24 rfl rfl rfl rfl (rh _ _)) (aL rfl rfl rfl) rfl rfl rfl) ?_;exact nE J1 (aI (llq a.rs) (sX (aU l a i j0 j))) ([cc (llq a.rs).length,sX (-bK (aU l a i j0 j))]) ⟨ce,le_refl 2,jQ R1 R2,by unfold fy;rw[VP h1,VP h2,VQ h3];rfl⟩
  have h3:¬0<ak (aU l a i j0 j):=of_decide_eq_false t63;obtain⟨cs,R0⟩:=HU F tw hn hd0;exact nE J1 (llq a.rs) ([[]]) ⟨cs,by decide,gS R0,by unfold fy;rw[VP h1,VP h2,VP h3];rfl⟩ (hw:=Wk.of (.cons rfl Ju (.k (.k .nil))) (.k (.k (.k .nil))))
 rintro T qs ⟨ct,hql,hq,hR⟩;obtain⟨rr,twT,hkT⟩:=ct.ex;refine gl ?_;refine gW (Wk.virt 900 3 rfl) ?_;refine aN [4,5,8,90,91] [1000,5,24] (fun(q:Nat)=>[(12,some (.ms 900 3 0 q)),(92,some (i64 q))]) (fun q=>[(900,some (.row 3 (ia T (dl l a i j0 j) qs q)))]) (fun q=>q<=qs.length) (fun q=>qs.length-q) 0 (zero_le _) ?_;rintro q hqi K2 J2;refine gC (fun t93=>?_) (fun t93=>?_) (st2:=(28,0))
 ·have hin:=aT t93;obtain ⟨x,hx⟩:=az hin;have hx9:qs.getD q [] = x:=aO hx;have R:=hq x (mem_of_getElem? hx);refine gi (ay hx) ?_;refine gc R.c1 ?_;refine gt (aX (Con.rB 24 rfl rfl rfl rfl (wS _ _ _)) (aL rfl rfl rfl) rfl rfl rfl) ?_;refine gD ?_;refine gc R.ng ?_;refine gt (aX (Con.rB 24 rfl rfl rfl rfl (rh _ _)) (aL rfl rfl rfl) rfl rfl rfl) ?_;refine gc R.c2 ?_;refine gt (aX (Con.rB 24 rfl rfl rfl rfl (wS _ _ _)) (aL rfl rfl rfl) rfl rfl rfl) ?_;refine gD ?_;refine gc R.sb ?_;refine gt (aX (Con.rB 24 rfl rfl rfl rfl (wS _ _ _)) (aL rfl rfl rfl) rfl rfl rfl) ?_;refine gD ?_;refine gt (aX (Con.rB 24 rfl rfl rfl rfl (wF R.d1)) (aL rfl rfl rfl) rfl rfl rfl) ?_;refine gt (aX (Con.rB 24 rfl rfl rfl rfl (wF R.d2)) (aL rfl rfl rfl) rfl rfl rfl) ?_;refine gD ?_;refine gc (yJ twT) ?_;refine gt (aX (Con.rB 24 rfl rfl rfl rfl R.body) (.cons (.tmp rfl) (.cons (.tmp rfl) (aL rfl rfl rfl))) rfl rfl rfl) ?_;refine gl ?_;refine gc (D4 q qs.length oz) ?_;refine gs (bO (.tmp rfl) rfl (rc _ _ _ _).symm (.tmp rfl) T54 rfl T62 rfl rfl (by dsimp only; simp only [length_cons,length_nil]; omega) rfl rfl) ?_;refine gD ?_ (27,0);refine gW (Wk.of (sl:=[(4,some (.ptr 24 0)),(5,some (.ptr 5 0)),(8,some (.lst 1 (qs.map nA))),(12,some (.ms 182 3 0 (q + 1))),(90,some (.lst 1 (qs.map nA))),(91,some (i64 qs.length)),(92,some (i64 q))]) (hp:=[(1000,some (cC l ⟨3,[i],[z0,z1],0⟩ a)),(5,some (.box (v8 l a i j0 j))),(24,some (a9 T)),(182,some (.row 3 (ia T (dl l a i j0 j) qs (q + 1))))]) aR (.k (.k (.k (.cons rfl (BlkSub.of (by rw [FC]; unfold kj; rw [hx9]; rfl)) .nil))))) ?_ (27,0)
  refine gW (Wk.rk (k:=182) (d:=900) rfl rfl) ?_;refine ga aE ?_;exact aH J2 (q+1) hin
 have hin:=a8 hqi t93;subst hin;refine gW ((Wk.freeze (k:=900) rfl).trans<|Wk.of (sl:=[(4,some (.ptr 24 0)),(12,some (.lst 3 (ia T (dl l a i j0 j) qs qs.length)))]) (hp:=[(1000,some (cC l ⟨3,[i],[z0,z1],0⟩ a)),(24,some (a9 T))]) (.k (.cons rfl (Sub.of (by rw[bD (rc _ _ _ _).symm])) .nil)) (.k (.k .nil))) ?_;refine gC (fun t188=>?_) (fun t188=>?_) (st1:=(29,0));cases t188;refine gR ?_;exact(aA.keep (bi rfl)).sub (Sub.of (by rw[hR];rfl))
theorem RR:Sub (.agg [bl (rt ((1:Int):Rat)).neg,ws (rt ((1:Int):Rat)).num,ws (rt ((1:Int):Rat)).den,.v (.bool false),nS,nS]) (qP (((1:Int):Rat),0)) :=
 Sub.agg (.cons (.refl _) (.cons (.refl _) (.cons (.refl _) (.cons (.refl _) (.cons (Sub.nil _ _ _) (.cons (Sub.nil _ _ _) .nil)))))) rfl
theorem j7{ts:LL}(q:Rat):sX (qE q:Et ts)=sh 0 (q:Rat):=vm _ _
def sC(l:Li)(a:As)(i:Int)(j0:Jt)(x:Tn):Pq:=lC (((1:Int):Rat),0) ((qE (fv x.half x.t.q),qE (fA x.half x.t.q)):P2 (llq a.rs)) (ah l j0 i) (am l a j0 i)
def je(l:Li)(a:As)(i:Int)(j0:Jt)(x:Tn):List AV×Nat:=if x.err≠0 then([],x.err)else([(⟨llq a.rs,[sC l a i j0 x],1⟩:Sv).av],0)
theorem NU{l:Li}{g:Gr}{a:As}{x:Tn}(hx:x.t.ok)(hq:Qb 1000 x.t.q)(he:x.err≠0) :
  Con prog 62 [.ptr 1000 0,x.av] [(1000,some (cC l g a))] (.tup [.lst 3 [],bm x.err]) [(1000,some (cC l g a))]:=by
 refine gF func62 (fun k z h=>bB h) ?_;refine gc (HS x hx hq oz) ?_;refine gC (fun t20=>?_) (fun t20=>?_) (st2:=(77777,0))
 ·refine gR ?_;exact(aA.keep (bi rfl)).sub (Sub.tup (.cons (.nil _ _ _) (.cons (.refl _) .nil)))
 exact absurd (cR t20) he
theorem yN:Sm 3000 (((1:Int):Rat),(0:Rat)):=⟨Qb.one.mono oz,Qb.mono (e:=1) (q:=0) ⟨by decide,by decide⟩ oz⟩
theorem F2{E:Nat}(hE:E<=20000000000){l:Li}{a:As}(D:DyW l a)(h3:(llq a.rs).length<=2){body pt:Int}(h1:br body l.bo.length=true)(h2:br pt (cF l body).length=true)(hb:Pd E a body) :
  Nm (llq a.rs).length 62500000000 (sX (aV l a body pt).1)/\Nm (llq a.rs).length 62500000000 (sX (aV l a body pt).2):=by
 obtain⟨n,k,bd,m,b,hp⟩:=sU D.hl D.li D.al D.hc h1 h2 hb;obtain⟨tw,_⟩:=bN D.al.tr D.hc;have kb:=u7 h3;have qx:Qb 1000 m.x.q:=by rw[hp.mp.ex,bt];exact hp.mp.sm.x
 have qy:Qb 1000 m.y.q:=by rw[hp.mp.ey,bt];exact hp.mp.sm.y
 have h:=z5 tw hp.ok qx qy;unfold aV;rw[hp.eq];exact⟨h.1.mono oz,h.2.mono oz⟩
theorem GF{E:Nat}(hE:E<=20000000000){l:Li}{a:As}(D:DyW l a)(h3:(llq a.rs).length<=2){i:Nat}{j:Jt}(hj:l.jo[i]?=some j){b:Int}(h:PinP E l a j b) :
  Nm (llq a.rs).length 62500000000 (sX (am l a j b).1)/\Nm (llq a.rs).length 62500000000 (sX (am l a j b).2):=by
 obtain⟨i1,i2,i3,i4,_⟩:=dm D.li hj;unfold am;rcases h.tie with⟨e,hb⟩ |⟨e,e2,hb⟩
 ·rw[VQ e];exact F2 hE D h3 i2 i4 hb
 ·rw[VP e];exact F2 hE D h3 i1 i3 hb
theorem Fi{E:Nat}(hE:E<=20000000000){l:Li}{a:As}(D:DyW l a)(h3:(llq a.rs).length<=2){n:Nat}{i:Int}{j0:Jt}(h0:l.jo[n]?=some j0)(p0:PinP E l a j0 i){x:Tn}(hq:Qb 1000 x.t.q) :
  BdP (llq a.rs) (((1:Int):Rat),(0:Rat)) ((qE (fv x.half x.t.q),qE (fA x.half x.t.q)):P2 (llq a.rs)) (ah l j0 i) (am l a j0 i):=by
 obtain⟨tw,etw⟩:=bN D.al.tr D.hc;have qc:=qS (half:=x.half) hq;have qs:=qM (half:=x.half) hq;have hs0:Sm 1000 (ah l j0 i):=dL D.hl D.li h0 p0.or;obtain⟨y1,y2⟩:=GF hE D h3 h0 p0
 exact Gp (F := 80000000000) (W := 10000) (u := (((1 : Int) : Rat), (0 : Rat))) (p := ah l j0 i) (w := ((qE (fv x.half x.t.q), qE (fA x.half x.t.q)) : P2 (llq a.rs))) (o := am l a j0 i) tw h3 (u7 h3) yN (hs0.mono oz) (by decide +kernel)
  (by show Nm _ _ (sX (qE (fv x.half x.t.q):Et (llq a.rs)));rw[j7];exact(fT tw.five qc).mono oz) (by show Nm _ _ (sX (qE (fA x.half x.t.q):Et (llq a.rs)));rw[j7];exact(fT tw.five qs).mono oz) y1 y2 oz oz oz
theorem N2{E:Nat}(hE:E<=20000000000){l:Li}{a:As}(D:DyW l a)(h3:(llq a.rs).length<=2){i z0 d:Int}{j0:Jt}(hg:GrOk l ⟨0,[i],[z0],d⟩)(h0:l.jo[z0.toNat]?=some j0)(p0:PinP E l a j0 i){x:Tn}(hx:x.t.ok)(hq:Qb 1000 x.t.q)(he:x.err=0) :
  Con prog 62 [.ptr 1000 0,x.av] [(1000,some (cC l ⟨0,[i],[z0],d⟩ a))] (.tup [.lst 3 [(⟨llq a.rs,[sC l a i j0 x],1⟩:Sv).av],.v .nilIface]) [(1000,some (cC l ⟨0,[i],[z0],d⟩ a))]:=by
 obtain⟨tw,etw⟩:=bN D.al.tr D.hc;have hc:=HS x hx hq oz;rw[VQ he,he]at hc;have hs:=K9 x hx hq oz;rw[VQ he,he]at hs;have qc:=qS (half:=x.half) hq;have qs:=qM (half:=x.half) hq;have hs0:Sm 1000 (ah l j0 i):=dL D.hl D.li h0 p0.or;have hb:=yM yN (hs0.mono oz) (Fi hE D h3 h0 p0 hq)
 have ew:bJ (P2.l ((qE (fv x.half x.t.q),qE (fA x.half x.t.q)):P2 (llq a.rs)))=ao (sh 0 (fv x.half x.t.q:Rat)) (sh 0 (fA x.half x.t.q:Rat)):=by
  show ao (sX (qE (fv x.half x.t.q):Et (llq a.rs))) (sX (qE (fA x.half x.t.q):Et (llq a.rs)))=_;rw[j7,j7]
 rw[ew]at hb;have hcl:=yJ tw;have hcl2:FP 144 [cf a.rs] (an (llq a.rs)):=by rw[etw];exact hcl
 refine gF func62 (fun k z h=>bB h) ?_;refine gc hc ?_;refine gC (fun t20=>?_) (fun t20=>?_) (st1:=(3,0));cases t20;refine gc hs ?_;refine gC (fun t28=>?_) (fun t28=>?_) (st1:=(6,0));cases t28;refine gi rfl ?_;refine gt (aX (rE hE D.hl D.li _ hg D.al D.hc (k:=0) rfl h0 h3 p0) (.cons (.tmp rfl) (.cons (.const _) (cG rfl))) rfl rfl rfl) ?_;refine gD ?_ (9,0);refine gW (Wk.of (sl:=[(0,some (.ptr 1000 0)),(6,some (.ptr 6 0)),(8,some (.ptr 8 0)),(9,some (.ptr 9 0)),(10,some (.ptr 10 0)),(11,some (.ptr 52 0))]) (hp:=[(1000,some (cC l ⟨0,[i],[z0],d⟩ a)),(6,some (.box [bl (rt (fv x.half x.t.q)).neg,ws (rt (fv x.half x.t.q)).num,ws (rt (fv x.half x.t.q)).den])),(8,some (.box [bl (rt (fA x.half x.t.q)).neg,ws (rt (fA x.half x.t.q)).num,ws (rt (fA x.half x.t.q)).den])),(9,some (.box (qC (ah l j0 i)))),(10,some (.box [nA (sX (am l a j0 i).1),nA (sX (am l a j0 i).2)])),(52,some (a9 (llq a.rs)))]) aR (.k (.k (.k (.k (.k (.cons rfl (BlkSub.bL (.cons (.of (gY etw)) (.cons (.refl _) .nil)) rfl) .nil))))))) ?_
 refine gc (m8 1 oz) ?_;refine gc (xn (qc.qs oz) (qs.qs oz)) ?_;refine gt (aX (Con.rB 52 rfl rfl rfl rfl (Con.sA (.cons (.refl _) (.cons RR (.cons (.refl _) (.cons (.refl _) (.cons (.refl _) .nil))))) hb)) (.cons (.tmp rfl) (.cons (.tmp rfl) (aL rfl rfl rfl))) rfl rfl rfl) ?_;refine gD ?_;refine gC (fun t67=>?_) (fun t67=>?_) (st1:=(12,0));cases t67;refine gc hcl2 ?_;refine gD ?_;refine gR ?_;exact aA.keep (bi rfl)
theorem Pk{E:Nat}(hE:E<=20000000000){l:Li}{a:As}(D:DyW l a)(h3:(llq a.rs).length<=2){i z0 d:Int}{j0:Jt}(hg:GrOk l ⟨0,[i],[z0],d⟩)(h0:l.jo[z0.toNat]?=some j0)(p0:PinP E l a j0 i){x:Tn}(hx:x.t.ok)(hq:Qb 1000 x.t.q) :
  Con prog 62 [.ptr 1000 0,x.av] [(1000,some (cC l ⟨0,[i],[z0],d⟩ a))] (ra (je l a i j0 x)) [(1000,some (cC l ⟨0,[i],[z0],d⟩ a))]:=by
 by_cases he:x.err=0
 ·have h:=N2 hE D h3 hg h0 p0 hx hq he;unfold je;rw[VP oz];exact h
 ·have h:=NU (l:=l) (g:=⟨0,[i],[z0],d⟩) (a:=a) hx hq he;unfold je;rw[VQ he];exact h
def iU(l:Li)(a:As)(g:Gr)(x:Tn):List AV×Nat :=
  if g.kind=0 then je l a (b9 g 0) (be l g 0) x
  else if g.kind=1 then j8 l a (b9 g 0) (b9 g 1) (be l g 0) (be l g 1) (be l g 2)
  else if g.kind=2 then jR l a (b9 g 0) (be l g 0) (be l g 1)
  else fy l a (b9 g 0) (be l g 0) (be l g 1)
theorem wm{E:Nat}{l:Li}{k:Int}{a:As}{own:Bool}{n:Nat}{g:Gr}(h:DyOk E l k a own n g)(hk:g.kind=0):∃i z0 d j0,g=⟨0,[i],[z0],d⟩/\l.jo[z0.toNat]?=some j0/\PinP E l a j0 i:=by
 have hd:=h.dy;cases hd with
 |rrr _ _ _ _ _ _ _=>exact absurd hk (by simp)
 |pr _ _ _=>exact absurd hk (by simp)
 |rp _ _ _=>exact absurd hk (by simp)
 | @drv b z d j x t d0 hd hb=>exact⟨b,z,d,j,rfl,t.hj,h.pin rfl t (by simp) (by simp)⟩
theorem KX{l:Li}{k:Int}{x:Tn}{a:As}{E:Nat}(hop:FP 61 [l.av,i64 k,a.av,bl false] (.tup [.v (.pointer none),bm E]))(h0:E≠0) :
  FP 17 [l.av,i64 k,x.av,a.av] (.tup [.lst 3 [],bm E]):=by
 refine af func17 ?_;refine gc hop ?_;refine gC (fun t20=>?_) (fun t20=>?_) (st2:=(77777,0))
 ·refine gR ?_;exact bw (Sub.tup (.cons (.nil _ _ _) (.cons (.refl _) .nil)))
 exact absurd (cR t20) h0
theorem Pf{E:Nat}(hE:E<=20000000000){l:Li}{k:Int}{a:As}{n:Nat}{g:Gr}{x:Tn}(hx:x.t.ok)(hq:Qb 1000 x.t.q)(h3:(llq a.rs).length<=2)(hR:g.kind≠0->E=3900000/\DyS a)(hop:Con prog 61 [l.av,i64 k,a.av,bl false] [] (.tup [.ptr 900 0,.v .nilIface]) [(900,some (cC l g a))])(D:DyW l a)(ok:DyOk E l k a false n g) :
  FP 17 [l.av,i64 k,x.av,a.av] (ra (iU l a g x)):=by
 have hgo:=ok.ok;refine af func17 ?_;refine gt (aJ hop (.cons (.tmp rfl) (.cons (.tmp rfl) (.cons (.tmp rfl) (.cons (.const _) .nil)))) aM rfl rfl) ?_ (2,0);refine gW (Wk.o (sl:=[(6,some (.ptr 6 0)),(10,some (.ptr 900 0)),(11,some (.v .nilIface))]) (hp:=[(6,some (.box x.av.cells)),(900,some (cC l g a))])) ?_;refine gC (fun t20=>?_) (fun t20=>?_) (st1:=(3,0));cases t20;refine gC (fun t27=>?_) (fun t27=>?_)
 ·have hk:g.kind = 0:=bV t27;obtain ⟨i,z0,d,j0,e,hj0,p0⟩:=wm ok hk;have eR:iU l a g x = je l a i j0 x:=by unfold iU; rw [VQ hk,e]; show je l a i (l.jo.getD z0.toNat default) x = _; rw [aO hj0]
  subst e;refine gt (aX (Con.rB 900 rfl rfl rfl rfl (Pk hE D h3 hgo hj0 p0 hx hq)) (bA rfl rfl) rfl rfl rfl) ?_;refine gR ?_;exact bw (Sub.of (by rw[eR];rfl))
 have hk0:g.kind≠0:=cr t27;obtain⟨hE9,S⟩:=hR hk0;subst hE9;have D:DyR l a:=⟨D,S⟩
 have hn:=S.one D.hc;refine gC (fun t34=>?_) (fun t34=>?_)
 ·have hk:g.kind = 1:=bV t34;obtain ⟨i,k2,z0,z1,z2,j0,j1,j2,P⟩:=ok.rrr hk;obtain ⟨e0,e1,e2,b0,b1,_⟩:=P.at;have eR:iU l a g x = j8 l a i k2 j0 j1 j2:=by unfold iU; rw [VP hk0,VQ hk,e0,e1,e2,b0,b1]
  have e:=P.eq;subst e;refine gt (aX (Con.rB 900 rfl rfl rfl rfl (Tb D hn hgo P)) (cG rfl) rfl rfl rfl) ?_;refine gR ?_;exact bw (Sub.of (by rw[eR];rfl))
 have hk1:g.kind≠1:=cr t34;refine gC (fun t40=>?_) (fun t40=>?_)
 ·have hk:g.kind = 2:=bV t40;obtain ⟨i,z0,z1,j0,j,P,ha,hb⟩:=ok.pr hk;obtain ⟨e0,e1,b0,_⟩:=P.at;have eR:iU l a g x = jR l a i j0 j:=by unfold iU; rw [VP hk0,VP hk1,VQ hk,e0,e1,b0]
  have e:=P.eq;subst e;refine gt (aX (Con.rB 900 rfl rfl rfl rfl (NP D hn hgo P ha hb)) (cG rfl) rfl rfl rfl) ?_;refine gR ?_;exact bw (Sub.of (by rw[eR];rfl))
 have hk2:g.kind≠2:=cr t40;obtain⟨i,z0,z1,j0,j,P,_,hj,hb⟩:=ok.rp hk0 hk1 hk2;obtain⟨e0,e1,b0,_⟩:=P.at;have eR:iU l a g x=fy l a i j0 j:=by unfold iU;rw[VP hk0,VP hk1,VP hk2,e0,e1,b0]
 have e:=P.eq;subst e;refine gt (aX (Con.rB 900 rfl rfl rfl rfl (Of D hn hgo P hj hb)) (cG rfl) rfl rfl rfl) ?_;refine gR ?_;exact bw (Sub.of (by rw[eR];rfl))
def oi(l:Li)(k:Int)(x:Tn)(a:As):List AV×Nat:=if fe l k a false=0 then iU l a (fI l k) x else([],fe l k a false)
theorem OF(l:Li)(hl:l.ok)(k:Int){x:Tn}(hx:x.t.ok)(hq:Qb 1000 x.t.q)(a:As)(al:AB a)(h3:bc a.rs=0->(llq a.rs).length<=2){E:Nat}(hE:E<=20000000000)(hs:qj E l k a false)(hR:fe l k a false=0->(fI l k).kind≠0->E=3900000/\DyS a) :
  FP 17 [l.av,i64 k,x.av,a.av] (ra (oi l k x a)):=by
 have hop:=Mf l hl k a al false;unfold oi
 by_cases h0:fe l k a false=0
 ·obtain ⟨n, g, ok⟩:=Ad hs h0;have hgA:fI l k = g:=by unfold fI; rw [ok.hk,toNat_natCast]; exact aO ok.hg
  have hR:=hR h0;rw[hgA]at hR;rw[h0,hgA]at hop;rw[VQ h0,hgA];exact Pf hE hx hq (h3 ok.chk) hR hop ⟨hl,ok.li,al,ok.chk⟩ ok
 ·rw[lr h0,qY h0]at hop;rw[VP h0];exact KX hop h0
theorem AL.sma{a:As}(al:AL a)(l:Li)(k:Int)(own:Bool):qj 3900000 l k a own:=fun b _ _ p hp x hx=>(al.nr p (mem_of_getElem? hp) x hx).mono oz
structure SvOk(s:Sv):Prop where
  tw:∃r,Tw s.ts r
  two:s.ts.length<=2
  ps:∀p∈s.ps,Pq.ok s.ts.length 80000000000 p
  ln:s.ps.length<=2
theorem OQ{ts:LL}{r:Nat}(h:Tw ts r)(k:Nat):Tw (ts.take k) r:=by
 have hl:(ts.take k).length<=ts.length:=by rw[length_take];omega
 have hg:∀j,j<(ts.take k).length->j<k/\j<ts.length:=fun j hj=>by rw[length_take]at hj;omega
 refine⟨le_trans hl h.three,fun j hj=>?_,fun j hj=>?_,?_,h.le⟩
 ·obtain⟨h1,h2⟩:=hg j hj;have h3:=h.len j h2;rw[getD_eq_getElem?_getD,getElem?_take,VQ h1,<- getD_eq_getElem?_getD];exact h3
 ·obtain⟨h1,h2⟩:=hg j hj;have h3:=h.pos j h2;rw[T.sgn_congr j (fun i hi=>pf (by omega:i<k)),pf h1];exact h3
 ·obtain⟨D,N,h1,h2,h3⟩:=h.rb;exact⟨D,N,h1,fun d hd=>h2 d (mem_of_mem_take hd),h3⟩
theorem oa(ts:LL)(x:T ts.length):iY ts x x=true:=by
 unfold iY subT;rw[T.add_neg,T.sgn_zero];rfl
theorem Vf{ts:LL}{r:Nat}(tw:Tw ts r){k:Nat}{d:List Rat}(hd:ts[k]?=some d) :
  FP 23 [.agg [.lst 1 (((ts.map nA).drop 0).take (k-0))],nA d,nA d] (bl true):=by
 have hk:=(List.getElem?_eq_some_iff.1 hd).1;have h3:=tw.three;have hlen:=tw.len k hk;rw[aO hd]at hlen;have hl:(ts.take k).length=k:=by rw[length_take];omega
 have hcb:=tw.rb.cb k;rw[aO hd]at hcb;have hlm:=ju k;have hle:=tw.le;have hm:Nm (ts.take k).length r d:=⟨by omega,.inr ⟨k,by omega,hlen⟩,hcb⟩
 have h:=nC (OQ tw k) hm hm (by rw[hl];omega);rw[oa]at h;rw[Nat.sub_zero,drop_zero,<- map_take];exact h
theorem Dz{ts:LL}{r:Nat}(tw:Tw ts r):FP 89 [an ts] (i64 0):=by
 have hC:=yd (ts.map (List.map rt)) r tw.tr;rw[tw.chk,gn]at hC;exact hC
theorem Jx{ts:LL}{r:Nat}(tw:Tw ts r):FP 115 [an ts,an ts] (bl true):=by
 have h3:=tw.three;refine af func115 ?_;refine gc (Dz tw) ?_;refine bM (fun _=>(Dz tw)) ?_;refine bS ?_;refine bS ?_;refine gC (fun t22=>?_) (fun t22=>?_) (st1:=(2,0));exact absurd t22 (by simp[aa]);refine gl ?_;refine aN [2,3,25] [2,3] (fun(k:Nat)=>[(26,some (i64 k))]) (fun _=>[]) (fun k=>k<=ts.length) (fun k=>ts.length-k) 0 (zero_le _) ?_;rintro k hk K1 J1;refine gC (fun t27=>?_) (fun t27=>?_)
 ·have hin:=aT t27;obtain⟨d,hd⟩:=az hin;refine gs (cz (.tmp rfl) (.none _) (.some _ (.tmp rfl) oz) T35 rfl T67 rfl oz (by simp only[length_map];omega) rfl) ?_;refine gi (ay hd) ?_;refine gi (ay hd) ?_;refine gc (Vf tw hd) ?_;refine gD ?_;refine gC (fun t45=>?_) (fun t45=>?_) (st1:=(7,0));cases t45;refine ga aE ?_;exact aH J1 (k+1) hin
 refine ae ?_;rfl
theorem Qg{ts:LL}{r:Nat}(tw:Tw ts r)(h2:ts.length<=2){p:Pq}(hp:Pq.ok ts.length 80000000000 p):FP 20 [an ts,p.av,p.av] (bl true):=by
 have hl:lm ts.length=200000000000:=by unfold lm;rw[VQ h2]
 have h:=Pi tw hp.c hp.s hp.x hp.y hp.c hp.s hp.x hp.y (by rw[hl];omega);rw[oa,oa,oa,oa]at h;exact h
structure SolP(S:List Sv)(kd:Int)(n b:Nat):Prop where
  two:S.length<=2
  ok:∀s∈S,SvOk s
  md:∀(i:Nat)(s:Sv),S[i]?=some s->s.mode=(if kd=0 then 1 else if S.length=2 then 1-2*(i:Int)else 0)/\s.ts.length=n+(if S.length=2 then 1 else 0)/\s.ps.length=b
theorem oq(kd:Int)(n b:Nat):SolP [] kd n b:=⟨by simp,by simp,by simp⟩
theorem xa(f:Nat->Sv)(n:Nat):((List.range n).map fun i=>(f i).av)=((List.range n).map f).map Sv.av:=by rw[map_map];rfl
theorem Ph{ts:LL}(p q:P2 ts)(z z2:Et ts)(h0:eA p q z z2=0):(dQ p q z z2).ts.length=ts.length+(if(dQ p q z z2).ps.length=2 then 1 else 0):=by
 unfold eA jO at h0;unfold dQ kc;split
 ·rename_i hd;rw[VQ hd]at h0;split
  ·simp
  ·rename_i hz;split
   ·rename_i hp;rw[VQ ⟨Decidable.not_not.1 hz,hp⟩]at h0;cases h0
   ·simp
 ·split
  ·simp
  ·split
   ·simp
   ·simp[ep]
theorem Vg{ts:LL}(p q o:P2 ts)(z:Et ts)(h0:fw p q=0):(eG p q o z).ts.length=ts.length+(if(eG p q o z).ps.length=2 then 1 else 0):=by
 unfold fw at h0;unfold eG;split
 ·rename_i hd;rw[VQ hd]at h0;cases h0
 ·split
  ·simp
  ·split
   ·simp
   ·simp[ep]
def mb(m:Mt)(hs:List Hd):List Sv:=(List.range m.ps.length).map (kv m hs)
def o5(l:Li)(a:As)(i k:Int)(j0 j1 j2:Jt):List Sv :=
  if eC [bn (ah l j2 i) (ah l j0 i),bn (ah l j2 k) (ah l j1 k)]=true then[]
  else if eA (am l a j0 i) (am l a j1 k) (qE (ba (ah l j2 i) (ah l j0 i))) (qE (ba (ah l j2 k) (ah l j1 k)))≠0 then[]
  else mb (dQ (am l a j0 i) (am l a j1 k) (qE (ba (ah l j2 i) (ah l j0 i))) (qE (ba (ah l j2 k) (ah l j1 k)))) [⟨ah l j0 i,P2.l (am l a j0 i),ah l j2 i⟩,⟨ah l j1 k,P2.l (am l a j1 k),ah l j2 k⟩]
def nZ(l:Li)(a:As)(i:Int)(j0 j:Jt):List Sv :=
  if eC [bn (ax l i j.point) (ah l j0 i)]=true then[]
  else if fw (aV l a j.b j.on) (aV l a j.b j.to)≠0 then[]
  else mb (eG (aV l a j.b j.on) (aV l a j.b j.to) (am l a j0 i) (qE (ba (ax l i j.point) (ah l j0 i)))) [⟨ah l j0 i,P2.l (am l a j0 i),ax l i j.point⟩]
def l9(ts:LL)(R:Rp)(qs:LL):List Sv:=(List.range qs.length).map (kj ts R qs)
def oc(l:Li)(a:As)(i:Int)(j0 j:Jt):List Sv :=
  if ak (cK l a i j0 j)=0/\ak (qE (cM l i j0 j):Et (llq a.rs))=0 then[]
  else if ak (aU l a i j0 j)<0 then[]
  else if 0<ak (aU l a i j0 j)then l9 (aI (llq a.rs) (sX (aU l a i j0 j))) (dl l a i j0 j) [cc (llq a.rs).length,sX (-bK (aU l a i j0 j))]
  else l9 (llq a.rs) (dl l a i j0 j) [[]]
def oC(l:Li)(a:As)(i:Int)(j0:Jt)(x:Tn):List Sv:=if x.err≠0 then[]else[⟨llq a.rs,[sC l a i j0 x],1⟩]
def eM(l:Li)(a:As)(g:Gr)(x:Tn):List Sv :=
  if g.kind=0 then oC l a (b9 g 0) (be l g 0) x
  else if g.kind=1 then o5 l a (b9 g 0) (b9 g 1) (be l g 0) (be l g 1) (be l g 2)
  else if g.kind=2 then nZ l a (b9 g 0) (be l g 0) (be l g 1)
  else oc l a (b9 g 0) (be l g 0) (be l g 1)
theorem OE(l:Li)(a:As)(i k:Int)(j0 j1 j2:Jt):(j8 l a i k j0 j1 j2).1=(o5 l a i k j0 j1 j2).map Sv.av:=by
 unfold j8 o5;split
 ·rfl
 ·split
  ·rfl
  ·exact xa _ _
theorem UQ(l:Li)(a:As)(i:Int)(j0 j:Jt):(jR l a i j0 j).1=(nZ l a i j0 j).map Sv.av:=by
 unfold jR nZ;split
 ·rfl
 ·split
  ·rfl
  ·exact xa _ _
theorem Mn(l:Li)(a:As)(i:Int)(j0 j:Jt):(fy l a i j0 j).1=(oc l a i j0 j).map Sv.av:=by
 unfold fy oc;split
 ·rfl
 ·split
  ·rfl
  ·split
   ·exact xa _ _
   ·exact xa _ _
theorem Tv(l:Li)(a:As)(g:Gr)(x:Tn):(iU l a g x).1=(eM l a g x).map Sv.av:=by
 unfold iU eM;split
 ·unfold je oC;split <;> rfl
 ·split
  ·exact OE ..
  ·split
   ·exact UQ ..
   ·exact Mn ..
theorem IQ{ts:LL}{m:Mt}(ok:MtOk ts m){hs:List Hd}(hl:hs.length<=2)(H:∀x∈m.ps,∀h∈hs,HdP m.ts x h){kd:Int}(hk:kd≠0)(lv:m.ts.length=ts.length+(if m.ps.length=2 then 1 else 0)) :
  SolP (mb m hs) kd ts.length hs.length:=by
 have hln:=ok.ln;refine⟨by simpa[mb]using hln,?_,?_⟩
 ·intro s hs2;obtain⟨i,hi,rfl⟩:=List.mem_map.1 hs2;obtain⟨x,hx⟩:=az (List.mem_range.1 hi);obtain⟨r,tw,_⟩:=ok.tw;refine⟨⟨r,tw⟩,ok.two,?_,by simpa[kv]using hl⟩;intro p hp;unfold kv at hp;rw[aO hx]at hp;obtain⟨h,hh,rfl⟩:=List.mem_map.1 hp;exact(H x (mem_of_getElem? hx) h hh).b.ok
 ·intro i s hi;unfold mb at hi;have hin:i < m.ps.length:=by have:=(List.getElem?_eq_some_iff.1 hi).1; simpa using this
  have e:s=kv m hs i:=by simp[hin]at hi;exact hi.symm
  subst e;have hlen:(mb m hs).length=m.ps.length:=by simp[mb]
  rw[hlen,VP hk];refine⟨?_,lv,by simp[kv]⟩;show(if m.ps.length=1 then 0 else 1-2*(i:Int))=_
  by_cases h2:m.ps.length=2
  ·rw[VP oz,VQ h2]
  ·rw[VQ oz,VP h2]
theorem VB{l:Li}{a:As}(D:DyR l a)(hn:(llq a.rs).length<=1){g:Gr}{i k z0 z1 z2:Int}{j0 j1 j2:Jt}(P:RrrP 3900000 l a g i k z0 z1 z2 j0 j1 j2):SolP (o5 l a i k j0 j1 j2) 1 (llq a.rs).length 2:=by
 have c:=D.s.ct D.hc;obtain⟨tw,etw⟩:=bN D.s.tr D.hc;have hq0:=dL D.hl D.li P.h0 P.p0.or;have hq1:=dL D.hl D.li P.h1 P.p1.or;have hq2:=dL D.hl D.li P.h2 P.t1;have hq3:=dL D.hl D.li P.h2 P.t2;obtain⟨y1,y2⟩:=gO D.hl D.li D.al D.s D.hc P.h0 P.p0;obtain⟨y3,y4⟩:=gO D.hl D.li D.al D.s D.hc P.h1 P.p1;haveI:=c;haveI q1:=mf hq2 hq0;haveI q2:=mf hq3 hq1;have z1:Zu 310000 65000 (qE (ba (ah l j2 i) (ah l j0 i)):Et (llq a.rs)) 3 0:=inferInstance;have z2:Zu 310000 65000 (qE (ba (ah l j2 k) (ah l j1 k)):Et (llq a.rs)) 3 0:=inferInstance;unfold o5
 by_cases h1:eC [bn (ah l j2 i) (ah l j0 i),bn (ah l j2 k) (ah l j1 k)]=true
 ·rw[VQ h1];exact oq _ _ _
 ·rw[VP h1];obtain⟨w1,w2⟩:=xy (Bool.eq_false_iff.2 h1)
  by_cases h2:eA (am l a j0 i) (am l a j1 k) (qE (ba (ah l j2 i) (ah l j0 i))) (qE (ba (ah l j2 k) (ah l j1 k)))≠0
  ·rw[VQ h2];exact oq _ _ _
  ·rw[VP h2];have h3:=Decidable.not_not.1 h2;have ok:=xF (x:=(am l a j0 i).1) (y:=(am l a j0 i).2) (x2:=(am l a j1 k).1) (y2:=(am l a j1 k).2) tw hn c y1 y2 z1 y3 y4 z2 h3;exact IQ ok (by simp) (fun x hx=>jQ (rj ok hx (y1.nm.mono (by decide)) (y2.nm.mono (by decide)) hq0 hq2 w1) (rj ok hx (y3.nm.mono (by decide)) (y4.nm.mono (by decide)) hq1 hq3 w2)) (by decide) (Ph _ _ _ _ h3)
theorem Tz{l:Li}{a:As}(D:DyR l a)(hn:(llq a.rs).length<=1){g:Gr}{i z0 z1:Int}{j0 j:Jt}(P:SlP 3900000 l a g 2 i z0 z1 j0 j)(ha:j.a=i)(hb:Pd 3900000 a j.b):SolP (nZ l a i j0 j) 2 (llq a.rs).length 1:=by
 have c:=D.s.ct D.hc;obtain⟨tw,etw⟩:=bN D.s.tr D.hc;obtain⟨i1,i2,i3,i4,i5⟩:=dm D.li P.h1;have hq2:Sm 1000 (ax l i j.point):=by rw[<- ha];exact gI D.hl D.li i1 i3
 have hq0:=dL D.hl D.li P.h0 P.p0.or;obtain⟨y1,y2⟩:=gO D.hl D.li D.al D.s D.hc P.h0 P.p0;obtain⟨y3,y4⟩:=gV D.hl D.li D.al D.s D.hc i2 i4 hb;obtain⟨y5,y6⟩:=gV D.hl D.li D.al D.s D.hc i2 (i5 P.hk) hb;haveI:=c;haveI q1:=mf hq2 hq0;have z1:Zu 310000 65000 (qE (ba (ax l i j.point) (ah l j0 i)):Et (llq a.rs)) 3 0:=inferInstance;unfold nZ
 by_cases h1:eC [bn (ax l i j.point) (ah l j0 i)]=true
 ·rw[VQ h1];exact oq _ _ _
 ·rw[VP h1];have w1:=vf (Bool.eq_false_iff.2 h1)
  by_cases h2:fw (aV l a j.b j.on) (aV l a j.b j.to)≠0
  ·rw[VQ h2];exact oq _ _ _
  ·rw[VP h2];have h3:=Decidable.not_not.1 h2;have ok:=Bk (o:=am l a j0 i) (p:=aV l a j.b j.on) (q:=aV l a j.b j.to) (z:=qE (ba (ax l i j.point) (ah l j0 i))) tw hn c y1 y2 y3 y4 y5 y6 z1 h3;exact IQ ok (by simp) (fun x hx=>gS (rj ok hx (y1.nm.mono (by decide)) (y2.nm.mono (by decide)) hq0 hq2 w1)) (by decide) (Vg _ _ _ _ h3)
theorem IZ{ts T:LL}{R:Rp}{qs:LL}(ct:Cy T 773000000 1101400000)(hl:qs.length<=2)(h1:1<=qs.length)(H:∀q∈qs,RqP T R q)(lv:T.length=ts.length+(if qs.length=2 then 1 else 0)):SolP (l9 T R qs) 3 ts.length 1:=by
 refine⟨by simpa[l9]using hl,?_,?_⟩
 ·intro s hs2;obtain⟨i,hi,rfl⟩:=List.mem_map.1 hs2;obtain⟨x,hx⟩:=az (List.mem_range.1 hi);obtain⟨r,tw,_⟩:=ct.ex;refine⟨⟨r,tw⟩,ct.two,?_,by simp[kj]⟩;intro p hp;unfold kj at hp;rw[aO hx]at hp;rw[List.mem_singleton.1 hp];exact(H x (mem_of_getElem? hx)).b.ok
 ·intro i s hi;unfold l9 at hi;have hin:i < qs.length:=by have:=(List.getElem?_eq_some_iff.1 hi).1; simpa using this
  have e:s=kj T R qs i:=by simp[hin]at hi;exact hi.symm
  subst e;have hlen:(l9 T R qs).length=qs.length:=by simp[l9]
  rw[hlen,VP (by decide)];refine⟨?_,lv,by simp[kj]⟩;show(if qs.length=1 then 0 else 1-2*(i:Int))=_
  by_cases h2:qs.length=2
  ·rw[VP oz,VQ h2]
  ·rw[VQ oz,VP h2]
theorem Sl{l:Li}{a:As}(D:DyR l a)(hn:(llq a.rs).length<=1){g:Gr}{i z0 z1:Int}{j0 j:Jt}(P:SlP 3900000 l a g 3 i z0 z1 j0 j)(hj:j.b=i)(hb:Pd 3900000 a j.a):SolP (oc l a i j0 j) 3 (llq a.rs).length 1:=by
 obtain⟨tw,etw⟩:=bN D.s.tr D.hc;have F:=yt D hn P hj hb;unfold oc
 by_cases h1:ak (cK l a i j0 j)=0/\ak (qE (cM l i j0 j):Et (llq a.rs))=0
 ·rw[VQ h1];exact oq _ _ _
 ·rw[VP h1]
  by_cases h2:ak (aU l a i j0 j)<0
  ·rw[VQ h2];exact oq _ _ _
  ·rw[VP h2];have hd0:ak (cK l a i j0 j)≠0:=uN tw h2 h1
   by_cases h3:0<ak (aU l a i j0 j)
   ·rw[VQ h3];obtain⟨E,R1,R2,_⟩:=HF F tw hn hd0 oz;exact IZ (ts:=llq a.rs) (qs:=[cc (llq a.rs).length,sX (-bK (aU l a i j0 j))]) E.cy (le_refl 2) (by show 1<=2;omega) (jQ R1 R2) (ep (llq a.rs) (sX (aU l a i j0 j)))
   ·rw[VP h3];obtain⟨cs,R0⟩:=HU F tw hn hd0;exact IZ (ts:=llq a.rs) (qs:=[[]]) cs (by show 1<=2;omega) (le_refl 1) (gS R0) rfl
theorem NH{E:Nat}(hE:E<=20000000000){l:Li}{a:As}(D:DyW l a)(h3:(llq a.rs).length<=2){i z0:Int}{j0:Jt}(h0:l.jo[z0.toNat]?=some j0)(p0:PinP E l a j0 i){x:Tn}(hq:Qb 1000 x.t.q):SolP (oC l a i j0 x) 0 (llq a.rs).length 1:=by
 obtain⟨tw,etw⟩:=bN D.al.tr D.hc;unfold oC
 by_cases he:x.err≠0
 ·rw[VQ he];exact oq _ _ _
 ·rw [VP he];refine ⟨by simp,gS ⟨⟨_,tw⟩,h3,gS (Fi hE D h3 h0 p0 hq).ok,by show 1 <= 2; omega⟩,?_⟩;intro n s hs
  match n,hs with
  |0,hs=>cases hs;exact⟨rfl,rfl,rfl⟩
theorem EJ{E:Nat}(hE:E<=20000000000){l:Li}{k:Int}{a:As}{n:Nat}{g:Gr}{x:Tn}(D:DyW l a)(h3:(llq a.rs).length<=2)(ok:DyOk E l k a false n g)(hR:g.kind≠0->E=3900000/\DyS a)(hq:Qb 1000 x.t.q):SolP (eM l a g x) g.kind (llq a.rs).length g.bo.length:=by
 unfold eM
 by_cases hk0:g.kind=0
 ·obtain⟨i,z0,d,j0,e,hj0,p0⟩:=wm ok hk0;rw[VQ hk0,e];show SolP (oC l a i (l.jo.getD z0.toNat default) x) _ _ _;rw[aO hj0];exact NH hE D h3 hj0 p0 hq
 ·rw[VP hk0];obtain⟨hE9,S⟩:=hR hk0;subst hE9;have D:DyR l a:=⟨D,S⟩
  have hn:=S.one D.hc
  by_cases hk1:g.kind=1
  ·obtain⟨i,k2,z0,z1,z2,j0,j1,j2,P⟩:=ok.rrr hk1;obtain⟨e0,e1,e2,b0,b1,_⟩:=P.at;rw[VQ hk1,e0,e1,e2,b0,b1,hk1,P.eq];exact VB D hn P
  ·rw[VP hk1]
   by_cases hk2:g.kind=2
   ·obtain⟨i,z0,z1,j0,j,P,ha,hb⟩:=ok.pr hk2;obtain⟨e0,e1,b0,_⟩:=P.at;rw[VQ hk2,e0,e1,b0,hk2,P.eq];exact Tz D hn P ha hb
   ·obtain⟨i,z0,z1,j0,j,P,_,hj,hb⟩:=ok.rp hk0 hk1 hk2;obtain⟨e0,e1,b0,hk3⟩:=P.at;rw[VP hk2,e0,e1,b0,hk3,P.eq];exact Sl D hn P hj hb
theorem T.inv_congr{r r':(k:Nat)->T k}:∀(k:Nat),(∀j,j<k->r j=r' j)->∀x,T.inv r k x=T.inv r' k x
 |0,_,x=>rfl
 |k+1,h,x=>by
  have ih:=T.inv_congr k (fun j hj=>h j oz);have hm:=T.mul_congr k (fun j hj=>h j oz);have hs:=T.sgn_congr k (fun j hj=>h j oz)
  have hn:T.norm r k x=T.norm r' k x:=by
   unfold T.norm;rw[h k oz];simp only[hm]
  conv=>lhs;unfold T.inv
  conv=>rhs;unfold T.inv
  simp only[ih,hm,hs,hn]
def jc{n N:Nat}(x:T n):T N:=ad N (sh n x)
section
variable{n N:Nat}{r r':(k:Nat)->T k}
theorem j5(x:T n):(jc x:T (n+1))=(x,T.zero n):=by
 unfold jc;rw[fV (eg n x).le,bq]
theorem Uz(hN:N=n+1)(h:∀j,j<n->r j=r' j)(x y:T n):(jc (T.mul r n x y):T N)=T.mul r' N (jc x) (jc y):=by
 subst hN;rw[j5,j5,j5,mul_low,T.zero_mul,T.mul_congr n h]
theorem Rn(hN:N=n+1)(x y:T n):(jc (T.add n x y):T N)=T.add N (jc x) (jc y):=by
 subst hN;rw[j5,j5,j5];show(T.add n x y,T.zero n)=(T.add n x y,T.add n (T.zero n) (T.zero n));rw[T.zero_add]
theorem J7(hN:N=n+1)(x:T n):(jc (T.neg n x):T N)=T.neg N (jc x):=by
 subst hN;rw[j5,j5];show(T.neg n x,T.zero n)=(T.neg n x,T.neg n (T.zero n));rw[T.neg_zero]
theorem SL(hN:N=n+1)(q:Rat):(jc (T.ofQ n q):T N)=T.ofQ N q:=by
 subst hN;rw[j5];rfl
theorem RQ(hN:N=n+1)(h:∀j,j<n->r j=r' j)(x:T n):(jc (T.inv r n x):T N)=T.inv r' N (jc x):=by
 subst hN;rw[j5,j5,T.inv_low,T.inv_congr n h]
end
section
variable{ts:LL}(X:Et ts)
theorem Jf{l:List Rat}(j:Nat)(hj:j<ts.length):aj ts j=aj (aI ts l) j:=(B0 hj).symm
theorem fi(x y:Et ts):aQ X (x*y)=aQ X x*aQ X y:=Uz (ep _ _) Jf x y
theorem s9(x y:Et ts):aQ X (x+y)=aQ X x+aQ X y:=Rn (ep _ _) x y
theorem IC(x:Et ts):aQ X (-x)=-aQ X x:=J7 (ep _ _) x
theorem C9(x y:Et ts):aQ X (x-y)=aQ X x-aQ X y:=by
 rw[show x-y=x+-y by grind,s9,IC];grind
theorem pW(q:Rat):aQ X (qE q)=qE q:=SL (ep _ _) q
theorem pb(x:Et ts):aQ X (iE x)=iE (aQ X x):=RQ (ep _ _) Jf x
end
theorem kG{ts:LL}:(qE ((1:Int):Rat):Et ts)=1:=rfl
theorem GR{ts:LL}:(qE ((-1:Int):Rat):Et ts)=-1:=by
 have h:=(T.ofQ_neg ts.length ((1:Nat):Rat))
 rw[show(((-1:Int):Rat))=-((1:Nat):Rat) by rfl];exact h
theorem uW{ts:LL}(d:Et ts):eh d=d+d:=by
 have h:(qE ((2:Int):Rat):Et ts)=1+1:=by
  have h:=T.ofQ_add ts.length ((1:Nat):Rat) ((1:Nat):Rat);rw[show(((2:Int):Rat))=((1:Nat):Rat)+((1:Nat):Rat) by decide +kernel];exact h
 unfold eh;rw[h];grind
theorem TE{ts:LL}:(qE 0:Et ts)=0:=rfl
section
variable{ts:LL}
theorem LR(p q:P2 ts)(z z2:Et ts):iA p q z z2=en p ((qE ((1:Int):Rat)*iE (au p q+au p q))*(z+au p q-z2)) (aW q p):=by
 unfold iA fX en;rw[uW,kG];refine Prod.ext ?_ ?_
 ·show p.1+(z+au p q-z2)*iE (au p q+au p q)*(q.1-p.1)=p.1+1*iE (au p q+au p q)*(z+au p q-z2)*(q.1-p.1);grind
 ·show p.2+(z+au p q-z2)*iE (au p q+au p q)*(q.2-p.2)=p.2+1*iE (au p q+au p q)*(z+au p q-z2)*(q.2-p.2);grind
def nO(p q:P2 ts):P2 ts:=(qE ((1:Int):Rat)*iE (au p q+au p q)*(0-(aW q p).2),qE ((1:Int):Rat)*iE (au p q+au p q)*(aW q p).1)
theorem CK(X:Et ts)(f p q:P2 ts):ic X f (fX p q) (ek X (au p q))=(aQ X f.1+bK X*aQ X (nO p q).1,aQ X f.2+bK X*aQ X (nO p q).2):=by
 unfold ic en ek nO;rw[uW,GR];refine Prod.ext ?_ ?_
 ·show aQ X f.1+bK X*iE (aQ X (au p q+au p q))*(-1*aQ X (q.2-p.2))=aQ X f.1+bK X*aQ X (qE ((1:Int):Rat)*iE (au p q+au p q)*(0-(q.2-p.2)));rw[fi,fi,pW,pb,show(0:Et ts)-(q.2-p.2)=-(q.2-p.2) by grind,IC,kG];grind
 ·show aQ X f.2+bK X*iE (aQ X (au p q+au p q))*aQ X (q.1-p.1)=aQ X f.2+bK X*aQ X (qE ((1:Int):Rat)*iE (au p q+au p q)*(q.1-p.1));rw[fi,fi,pW,pb,kG];grind
theorem RU(X:Et ts)(f p q:P2 ts):ic X f (fX p q) (qE ((-1:Int):Rat)*ek X (au p q))=(aQ X f.1-bK X*aQ X (nO p q).1,aQ X f.2-bK X*aQ X (nO p q).2):=by
 have h:=CK X f p q;have h1:=congrArg Prod.fst h;have h2:=congrArg Prod.snd h;unfold ic en at h1 h2 ⊢;rw[GR]at h1 h2 ⊢;dsimp only at h1 h2;refine Prod.ext ?_ ?_
 ·dsimp only;grind
 ·dsimp only;grind
def mg(p q:P2 ts):P2 ts:=(qE ((1:Int):Rat)*iE (bu p q)*(aW q p).1,qE ((1:Int):Rat)*iE (bu p q)*(aW q p).2)
theorem QH(X:Et ts)(p q c:P2 ts):km X p (aW q p) (fp X (bu p q) (aQ X (bY p q c)+bK X)) =
  (aQ X (en p (bY p q c*iE (bu p q)) (aW q p)).1+bK X*aQ X (mg p q).1,aQ X (en p (bY p q c*iE (bu p q)) (aW q p)).2+bK X*aQ X (mg p q).2):=by
 unfold km fp mg en;refine Prod.ext ?_ ?_
 ·dsimp only;rw[s9,fi,fi,fi,fi,pb,pW,kG];grind
 ·dsimp only;rw[s9,fi,fi,fi,fi,pb,pW,kG];grind
theorem Ow(X:Et ts)(p q c:P2 ts):km X p (aW q p) (fp X (bu p q) (aQ X (bY p q c)-bK X)) =
  (aQ X (en p (bY p q c*iE (bu p q)) (aW q p)).1-bK X*aQ X (mg p q).1,aQ X (en p (bY p q c*iE (bu p q)) (aW q p)).2-bK X*aQ X (mg p q).2):=by
 unfold km fp mg en;refine Prod.ext ?_ ?_
 ·dsimp only;rw[s9,fi,fi,fi,fi,pb,pW,kG];grind
 ·dsimp only;rw[s9,fi,fi,fi,fi,pb,pW,kG];grind
theorem BA(r:(k:Nat)->T k):∀(n:Nat)(q:Rat),T.inv r n (T.ofQ n q)=T.ofQ n (1/q)
 |0,q=>rfl
 |n+1,q=>by
  show T.inv r (n+1) (T.ofQ n q,T.zero n)=(T.ofQ n (1/q),T.zero n);rw[T.inv_low,BA r n q]
theorem GU:(iE (qE 1):Et ts)=1:=by
 show T.inv (aj ts) ts.length (T.ofQ ts.length 1)=_;rw[BA,show(1:Rat)/1=((1:Nat):Rat) by decide +kernel];rfl
end
theorem z8(r:(k:Nat)->T k)(q:Rat):∀(k:Nat){a c:List Rat},(∀i,i<2^k->c.getD i 0=q*a.getD i 0)->ad k c=T.mul r k (T.ofQ k q) (ad k a)
 |0,a,c,h=>h 0 (by decide)
 |k+1,a,c,h=>by
  have h1:=z8 r q k (a:=a.take (2^k)) (c:=c.take (2^k)) (fun i hi=>by rw[ki,ki,VQ hi,VQ hi];exact h i (by rw[Nat.pow_succ];omega));have h2:=z8 r q k (a:=a.drop (2^k)) (c:=c.drop (2^k)) (fun i hi=>by rw[kz,kz];exact h _ (by rw[Nat.pow_succ];omega));show(ad k (c.take (2^k)),ad k (c.drop (2^k)))=T.mul r (k+1) (T.ofQ k q,T.zero k) (ad k (a.take (2^k)),ad k (a.drop (2^k)));rw[T.mul_comm,T.mul_half,h1,h2,T.mul_comm r k (ad k (a.take _)),T.mul_comm r k (ad k (a.drop _))]
section
variable{ts:LL}
def Bz(e:Nat)(x:Et ts):Prop:=Nm ts.length e (sX x)
theorem Bz.mono{e f:Nat}{x:Et ts}(h:Bz e x)(hf:e<=f):Bz f x:=Nm.mono h hf
theorem Bz.add{e f:Nat}{x y:Et ts}(hx:Bz e x)(hy:Bz f y):Bz (e+f+1) (x+y):=Nm.addT hx hy
theorem Bz.sub{e f:Nat}{x y:Et ts}(hx:Bz e x)(hy:Bz f y):Bz (e+f+1) (x-y):=Nm.subT hx hy
theorem Bz.neg{e:Nat}{x:Et ts}(hx:Bz e x):Bz e (-x):=Nm.negT hx
theorem Bz.mul{r K e f:Nat}(tw:Tw ts r)(hK:eB r ts.length<=K){x y:Et ts}(hx:Bz e x)(hy:Bz f y):Bz (e+f+K) (x*y):=by
 have h:=Nm.mul tw rfl hx hy;have e1:∀z:Et ts,ad ts.length (sX z)=z:=fun z=>bq _ _
 rw[e1,e1]at h;exact Nm.mono h (Nat.add_le_add_left hK _)
theorem Bz.q{e:Nat}{q:Rat}(h5:ts.length<=5)(hq:Cb e [q]):Bz e (qE q:Et ts):=by
 unfold Bz;rw[j7];exact Nm.ofQ h5 hq
theorem Bz.qm{e f:Nat}{q:Rat}{x:Et ts}(hq:Cb e [q])(hx:Bz f x):Bz (e+f) (qE q*x):=by
 obtain⟨D,N,h1,h2,h3⟩:=hq;obtain⟨D',N',k1,k2,k3⟩:=hx.cb;obtain⟨n,hn,hN⟩:=h1.2 q (List.mem_singleton.2 rfl);have hx2:ad ts.length (sX x)=x:=bq _ _
 have hd:ad ts.length ((sX x).map (q*·))=T.mul (aj ts) ts.length (T.ofQ ts.length q) (ad ts.length (sX x)):=z8 _ q _ (fun i _=>by
  rw[getD_eq_getElem?_getD,getElem?_map,getD_eq_getElem?_getD];cases(sX x)[i]? with
  |none=>exact(Rat.mul_zero q).symm
  |some v=>rfl)
 rw[hx2]at hd
 have hc:Cb (e+f) ((sX x).map (q*·)):=by
  refine⟨D*D',N*N',⟨Nat.mul_pos h1.1 k1.1,?_⟩,?_,?_⟩
  ·intro z hz;obtain⟨y,hy,rfl⟩:=List.mem_map.1 hz;obtain⟨m,hm,hM⟩:=k1.2 y hy;refine⟨n*m,?_,?_⟩
   ·rw[Int.natCast_mul,Rat.intCast_mul,Rat.intCast_mul,<- hn,<- hm];grind
   ·rw[Int.natAbs_mul];exact Nat.mul_le_mul hN hM
  ·rw[pow_add];exact Nat.mul_le_mul h2 k2
  ·rw[pow_add];exact Nat.mul_le_mul h3 k3
 have hnl:Nl ts.length ((sX x).map (q*·)):=by
  rcases hx.nl with h |⟨j,hj,h⟩
  ·exact .inl (by rw[h];rfl)
  ·exact .inr ⟨j,hj,by rw[length_map];exact h⟩
 refine⟨hx.five,eg _ _,?_⟩;have:=hc.sh hnl;rw[hd]at this;exact this
theorem Bz.mq{e f:Nat}{q:Rat}{x:Et ts}(hx:Bz f x)(hq:Cb e [q]):Bz (e+f) (x*qE q):=by
 rw[show x*qE q=qE q*x by grind];exact hx.qm hq
theorem Bz.iq{e f:Nat}{q:Rat}{x:Et ts}(hx:Bz f x)(hq:Cb e [q])(h0:q≠0):Bz (e+f) (x*iE (qE q)):=by
 have h:(iE (qE q):Et ts)=qE (1/q):=BA _ _ q;rw[h];exact hx.mq (hq.inv1 h0)
theorem Bz.iv{r f j I:Nat}{y:Et ts}(tw:Tw ts r)(hy:Bz f y)(nb:Nl j (sX y))(hj:j<=ts.length)(h0:ak y≠0)(hI:iB r j f<=I)(hs:I<=50000000000):Bz I (iE y):=by
 have hf:=pa r j f;have hl:=ju ts.length;have e1:ad ts.length (sX y)=y:=bq _ _;obtain⟨L,_,k2,k3,k4⟩:=yn (b:=sX y) tw hy hj nb (by rw[e1];exact h0) oz oz;rw[e1]at k4;have:=k3.sh k2;rw[k4]at this;exact⟨tw.five,eg _ _,this.mono hI⟩
structure Pz(n ec ex:Nat)(p:Pq):Prop where
  c:Nm n ec p.c
  s:Nm n ec p.s
  x:Nm n ex p.x
  y:Nm n ex p.y
theorem Pz.mono{n n' a b a' b':Nat}{p:Pq}(h:Pz n a b p)(hn:n<=n')(h5:n'<=5)(ha:a<=a')(hb:b<=b'):Pz n' a' b' p :=
 ⟨⟨h5,h.c.nl.mono hn,h.c.cb.mono ha⟩,⟨h5,h.s.nl.mono hn,h.s.cb.mono ha⟩,⟨h5,h.x.nl.mono hn,h.x.cb.mono hb⟩,⟨h5,h.y.nl.mono hn,h.y.cb.mono hb⟩⟩
theorem Id{s t e f:Nat}{u p:Rat×Rat}{w o:P2 ts}(hu:Sm t u)(hp:Sm s p)(h0:bF u u≠0)(w1:Bz e w.1)(w2:Bz e w.2)(o1:Bz f o.1)(o2:Bz f o.2) :
  Pz ts.length (2*e+6*t+2) (f+4*e+12*t+2*s+6) (lC u w p o):=by
 have u1:=Cb.one hu.x;have u2:=Cb.one hu.y;have p1:=Cb.one hp.x;have p2:=Cb.one hp.y;have n:=Cb.one (hu.dot hu);have c:=(((w1.qm u1).add (w2.qm u2)).iq n h0).mono (f:=2*e+6*t+2) oz;have d:=(((w2.qm u1).sub (w1.qm u2)).iq n h0).mono (f:=2*e+6*t+2) oz;exact⟨c,d,(o1.sub ((c.mq p1).sub (d.mq p2))).mono oz,(o2.sub ((d.mq p1).add (c.mq p2))).mono oz⟩
theorem qH{a:List Rat}{e:Nat}(h:Nm ts.length e a):Bz e (dE ts a):=by
 have:=h.cb.sh h.nl;exact⟨h.five,eg _ _,this⟩
theorem SD{s f:Nat}{p:Rat×Rat}{c d:Rat}{o:P2 ts}{g:Nat}(hc:Cb g [c])(hd:Cb g [d])(hp:Sm s p)(h5:ts.length<=5)(o1:Bz f o.1)(o2:Bz f o.2) :
  Pz ts.length (g+1) (f+2*g+2*s+4) (lC (((1:Int):Rat),0) ((qE c,qE d):P2 ts) p o):=by
 have e0:∀x:Et ts,(qE ((1:Int):Rat):Et ts)*x=x:=fun x=>by
  have:(qE ((1:Int):Rat):Et ts)=1:=rfl;rw[this];grind
 have e1:∀x:Et ts,(qE (0:Rat):Et ts)*x=0:=fun x=>by
  have:(qE (0:Rat):Et ts)=0:=rfl;rw[this];grind
 have e2:(iE (uK (((1:Int):Rat),0)):Et ts)=1:=by
  show iE (qE (bF (((1:Int):Rat),0) (((1:Int):Rat),0)))=_;rw[show bF (((1:Int):Rat),(0:Rat)) (((1:Int):Rat),(0:Rat))=1 by decide +kernel];exact GU
 have ec:dj (((1:Int):Rat),0) ((qE c,qE d):P2 ts)=qE c:=by
  unfold dj;rw[e0,e1,e2];grind
 have ed:dk (((1:Int):Rat),0) ((qE c,qE d):P2 ts)=qE d:=by
  unfold dk;rw[e0,e1,e2];grind
 have p1:=Cb.one hp.x;have p2:=Cb.one hp.y;have c1:Bz g (qE c:Et ts):=Bz.q h5 hc;have d1:Bz g (qE d:Et ts):=Bz.q h5 hd;refine⟨?_,?_,?_,?_⟩
 ·show Bz _ (dj _ _);rw[ec];exact c1.mono oz
 ·show Bz _ (dk _ _);rw[ed];exact d1.mono oz
 ·show Bz _ (um _ _ p o);unfold um;rw[ec,ed];exact(o1.sub ((c1.mq p1).sub (d1.mq p2))).mono oz
 ·show Bz _ (tl _ _ p o);unfold tl;rw[ec,ed];exact(o2.sub ((d1.mq p1).add (c1.mq p2))).mono oz
structure Xz(ts:LL)(r X:Nat)(us:LL):Prop where
  tw:Tw us (r+X)
  up:ts.length<=us.length
  ln:us.length<=ts.length+1
theorem yF{r X:Nat}(tw:Tw ts r)(hx:r+X<=5000000000):Xz ts r X ts:=⟨⟨tw.three,tw.len,tw.pos,tw.rb.mono oz,hx⟩,le_refl _,by omega⟩
theorem xo{r X:Nat}(tw:Tw ts r)(hn:ts.length<=1)(hx:r+X<=5000000000){x:Et ts}(h:Bz X x)(hs:0<=ak x):Xz ts r X (aI ts (sX x)) :=
 ⟨xH tw oz h hx (by rw[show ad ts.length (sX x)=x from bq _ _];exact hs),by rw[ep];omega,by rw[ep];omega⟩
theorem Bz.up{e:Nat}{X x:Et ts}(h:Bz e x)(hn:ts.length<=1):Bz e (aQ X x):=by
 have h1:Nm (aI ts (sX X)).length e (sX x):=fH h oz;exact qH h1
structure Szs(n r a b X K K' I J:Nat):Prop where
  n1:n<=1
  hK:eB r n<=K
  hX:24*a+8*K+5*b+23<=X
  hL:r+X<=5000000000
  hK':eB (r+X) (n+1)<=K'
  hI:iB r n (8*a+2*K+8)<=I
  hJ:iB (r+X) n (8*a+2*K+8)<=J
  hJ':J<=50000000000
  kk:K<=K'
  ij:I<=J
theorem Szs.kx{n r a b X K K' I J:Nat}(h:Szs n r a b X K K' I J){us:LL}(hu:us.length<=n+1):eB (r+X) us.length<=K':=le_trans (gz _ hu) h.hK'
section
variable{r a b X K K' I J:Nat}(Z:Szs ts.length r a b X K K' I J)(tw:Tw ts r)
include Z tw
theorem A4{p q:P2 ts}(p1:Bz a p.1)(p2:Bz a p.2)(q1:Bz a q.1)(q2:Bz a q.2):Bz (8*a+2*K+5) (gN (aW q p) (aW q p)):=by
 have v1:=q1.sub p1;have v2:=q2.sub p2;exact((v1.mul tw Z.hK v1).add (v2.mul tw Z.hK v2)).mono oz
theorem B1{y:Et ts}(hy:Bz (8*a+2*K+8) y)(h0:ak y≠0):Bz I (iE y) :=
 hy.iv tw (eg _ _) (le_refl _) h0 Z.hI (by have:=Z.ij;have:=Z.hJ';omega)
theorem yC{x y:Et ts}(hx:Bz X x)(hs:0<=ak x)(hy:Bz (8*a+2*K+8) y)(h0:ak y≠0):Bz J (iE (aQ x y)):=by
 have E:=xo tw Z.n1 Z.hL hx hs
 have e1:sX (aQ x y)=sX y:=by
  have:=(nB (X:=x) Z.n1 _ y hy).2;exact this
 refine(hy.up Z.n1).iv E.tw (j:=ts.length) (by rw[e1];exact eg _ _) E.up (by rw[tT];exact h0) Z.hJ Z.hJ'
theorem Ae{x:Et ts}:Bz 1 (dE (aI ts (sX x)) (cc ts.length)):=by have _:=tw;exact qH (n8 (by have:=Z.n1;omega))
theorem Ob{p q:P2 ts}{z z2:Et ts}(p1:Bz a p.1)(p2:Bz a p.2)(q1:Bz a q.1)(q2:Bz a q.2)(hz:Bz b z)(hz2:Bz b z2)(h0:eA p q z z2=0) :
  Xz ts r X (dQ p q z z2).ts/\∀m∈(dQ p q z z2).ps,Nm (dQ p q z z2).ts.length (13*a+2*b+5*K+2*K'+I+J+20) m.1/\Nm (dQ p q z z2).ts.length (13*a+2*b+5*K+2*K'+I+J+20) m.2:=by
 have hn:=Z.n1;have hkk:=Z.kk;have hd:Bz (8*a+2*K+5) (au p q):=A4 Z tw (p:=q) (q:=p) q1 q2 p1 p2;have hm:=(hz.add hd).sub hz2;have q4:Cb 3 [((4:Int):Rat)]:=Cb.int (z:=4) (by decide);have q2':Cb 2 [((2:Int):Rat)]:=Cb.int (z:=2) (by decide);have qm1:Cb 1 [((-1:Int):Rat)]:=Cb.int (z:=-1) (by decide)
 have hX:Bz X (cm p z q z2):=by
  have h:=((hz.mul tw Z.hK hd).qm q4).sub (hm.mul tw Z.hK hm);have h2:=h.mono (f:=X) (by have:=Z.hX;omega);exact h2
 have same:=yF (X:=X) tw Z.hL;have v1:=q1.sub p1;have v2:=q2.sub p2;unfold eA jO at h0;unfold dQ kc
 by_cases hs:ak (au p q)=0
 ·rw[VQ hs]at h0 ⊢
  by_cases hz0:ak (z-z2)≠0
  ·rw[VQ hz0];exact⟨same,fun m hm=>by cases hm⟩
  ·rw[VP hz0]
   by_cases hp:0<ak z
   ·rw[VQ ⟨Decidable.not_not.1 hz0,hp⟩]at h0;cases h0
   ·rw[VP hp]
    have n0:Bz 0 (0:Et ts):=by
     have:=Bz.q (ts:=ts) (e:=0) (q:=0) oz (Cb.int (z:=0) (by decide));exact this
    refine⟨same,gS ⟨?_,?_⟩⟩
    ·exact(p1.add (n0.mul tw Z.hK p1)).mono (f:=13*a+2*b+5*K+2*K'+I+J+20) oz
    ·exact(p2.add (n0.mul tw Z.hK p2)).mono (f:=13*a+2*b+5*K+2*K'+I+J+20) oz
 ·rw [VP hs];have ht0:ak (eh (au p q)) ≠ 0:=by rw [wQ tw]; exact hs
  have ht:Bz (8*a+2*K+8) (eh (au p q)):=Bz.mono (e:=2+(8*a+2*K+5)) (hd.qm q2') oz
  by_cases hx0:ak (cm p z q z2)<0
  ·rw[VQ hx0];exact⟨same,fun m hm=>by cases hm⟩
  ·rw[VP hx0];have hk:=hm.mul tw Z.hK (B1 Z tw ht ht0);have f1:Bz (11*a+2*b+4*K+I+10) (iA p q z z2).1:=(p1.add (hk.mul tw Z.hK v1)).mono oz;have f2:Bz (11*a+2*b+4*K+I+10) (iA p q z z2).2:=(p2.add (hk.mul tw Z.hK v2)).mono oz
   by_cases hx1:ak (cm p z q z2)=0
   ·rw[VQ hx1];exact⟨same,gS ⟨f1.mono oz,f2.mono oz⟩⟩
   ·rw [VP hx1];have hpos:0 <= ak (cm p z q z2):=by omega
    have E:=xo tw hn Z.hL hX hpos;have hkx:=Z.kx E.ln;have s1:=(Ae Z tw (x:=cm p z q z2)).mul E.tw hkx (yC Z tw hX hpos ht ht0);have s2:=s1.qm qm1;have w1:=(v2.up (X:=cm p z q z2) hn).qm qm1;have w2:=v1.up (X:=cm p z q z2) hn;have g1:=f1.up (X:=cm p z q z2) hn;have g2:=f2.up (X:=cm p z q z2) hn;exact⟨E,jQ ⟨(g1.add (s1.mul E.tw hkx w1)).mono oz,(g2.add (s1.mul E.tw hkx w2)).mono oz⟩ ⟨(g1.add (s2.mul E.tw hkx w1)).mono oz,(g2.add (s2.mul E.tw hkx w2)).mono oz⟩⟩
theorem JL{p q o:P2 ts}{z:Et ts}(p1:Bz a p.1)(p2:Bz a p.2)(q1:Bz a q.1)(q2:Bz a q.2)(o1:Bz a o.1)(o2:Bz a o.2)(hz:Bz b z)(h0:fw p q=0) :
  Xz ts r X (eG p q o z).ts/\∀m∈(eG p q o z).ps,Nm (eG p q o z).ts.length (13*a+2*b+5*K+2*K'+I+J+20) m.1/\Nm (eG p q o z).ts.length (13*a+2*b+5*K+2*K'+I+J+20) m.2:=by
 have hn:=Z.n1;have hkk:=Z.kk;have hS:=(A4 Z tw p1 p2 q1 q2)
 have v1:=q1.sub p1;have v2:=q2.sub p2;have w1:=o1.sub p1;have w2:=o2.sub p2;have hE:Bz (8*a+2*K+5) (bY p q o):=((v1.mul tw Z.hK w1).add (v2.mul tw Z.hK w2)).mono oz;have hC:Bz (8*a+2*K+5) (jf p q o):=((v1.mul tw Z.hK w2).sub (v2.mul tw Z.hK w1)).mono oz;have hX:Bz X (bb p q o z):=((hS.mul tw Z.hK hz).sub (hC.mul tw Z.hK hC)).mono (by have:=Z.hX;omega);have same:=yF (X:=X) tw Z.hL;unfold fw at h0;unfold eG
 by_cases hs:ak (bu p q)=0
 ·rw[VQ hs]at h0;cases h0
 ·rw[VP hs]
  by_cases h1:ak (bb p q o z)=-1
  ·rw[VQ h1];exact⟨same,fun m hm=>by cases hm⟩
  ·rw[VP h1]
   by_cases h2:ak (bb p q o z)=0
   ·rw[VQ h2];have hk:=hE.mul tw Z.hK (B1 Z tw (hS.mono oz) hs);exact⟨same,gS ⟨(p1.add (hk.mul tw Z.hK v1)).mono (f:=13*a+2*b+5*K+2*K'+I+J+20) oz,(p2.add (hk.mul tw Z.hK v2)).mono (f:=13*a+2*b+5*K+2*K'+I+J+20) oz⟩⟩
   ·rw[VP h2]
    have hpos:0<=ak (bb p q o z):=by
     have:=T.sgn_cases (aj ts) ts.length (bb p q o z);have e:ak (bb p q o z)=T.sgn (aj ts) ts.length (bb p q o z):=rfl;omega
    have E:=xo tw hn Z.hL hX hpos;have hkx:=Z.kx E.ln;have hi:=yC Z tw hX hpos (hS.mono oz) hs;have rt:=Ae Z tw (x:=bb p q o z);have k1:=((hE.up (X:=bb p q o z) hn).add rt).mul E.tw hkx hi;have k2:=((hE.up (X:=bb p q o z) hn).sub rt).mul E.tw hkx hi;have g1:=p1.up (X:=bb p q o z) hn;have g2:=p2.up (X:=bb p q o z) hn;have u1:=v1.up (X:=bb p q o z) hn;have u2:=v2.up (X:=bb p q o z) hn;exact⟨E,jQ ⟨(g1.add (k1.mul E.tw hkx u1)).mono oz,(g2.add (k1.mul E.tw hkx u2)).mono oz⟩ ⟨(g1.add (k2.mul E.tw hkx u1)).mono oz,(g2.add (k2.mul E.tw hkx u2)).mono oz⟩⟩
end
end
def Cs(s:Nat)(l:Li):Prop:=∀b∈l.bo,∀m∈b.pts,Qb s m.x.q/\Qb s m.y.q
section
variable{s:Nat}{l:Li}(hl:l.ok)(hli:aG l=0)(hcs:Cs s l)
include hl hli hcs
theorem rF{body pt:Int}(h1:br body l.bo.length=true)(h2:br pt (cF l body).length=true):Sm s (ax l body pt):=by
 obtain⟨n,k,bd,m,h⟩:=sa hl hli h1 h2;obtain⟨c1,c2⟩:=hcs bd (mem_of_getElem? h.gbd) m (mem_of_getElem? h.gm);rw[h.ex,bt]at c1;rw[h.ey,bt]at c2;exact⟨c1,c2⟩
theorem oJ{i:Nat}{j:Jt}(hj:l.jo[i]?=some j){b:Int}(h:j.a=b\/j.b=b):Sm s (ah l j b):=by
 obtain⟨i1,i2,i3,i4,_⟩:=dm hli hj;unfold ah
 by_cases e:j.a=b
 ·rw[VQ e];subst e;exact rF hl hli hcs i1 i3
 ·rw[VP e];rcases h with h |h
  ·exact absurd h e
  ·subst h;exact rF hl hli hcs i2 i4
theorem rS{E r K:Nat}{a:As}(al:AB a)(hc:bc a.rs=0)(tw:Tw (llq a.rs) r)(hK:eB r (llq a.rs).length<=K){body pt:Int}(h1:br body l.bo.length=true)(h2:br pt (cF l body).length=true)(hb:Pd E a body) :
  Bz (3*E+2*s+2*K+10) (aV l a body pt).1/\Bz (3*E+2*s+2*K+10) (aV l a body pt).2:=by
 obtain⟨n,k,bd,m,b,hp⟩:=sU hl hli al hc h1 h2 hb;obtain⟨c1,c2⟩:=hcs bd (mem_of_getElem? hp.mp.gbd) m (mem_of_getElem? hp.mp.gm);have h:=z5 tw hp.ok c1 c2;have hk:kB r (llq a.rs).length<=K:=hK;unfold aV Bz;rw[hp.eq];exact⟨h.1.mono oz,h.2.mono oz⟩
theorem sK{E r K:Nat}{a:As}(al:AB a)(hc:bc a.rs=0)(tw:Tw (llq a.rs) r)(hK:eB r (llq a.rs).length<=K){i:Nat}{j:Jt}(hj:l.jo[i]?=some j){b:Int}(h:PinP E l a j b) :
  Bz (3*E+2*s+2*K+10) (am l a j b).1/\Bz (3*E+2*s+2*K+10) (am l a j b).2:=by
 obtain⟨i1,i2,i3,i4,_⟩:=dm hli hj;unfold am;rcases h.tie with⟨e,hb⟩ |⟨e,e2,hb⟩
 ·rw[VQ e];exact rS hl hli hcs al hc tw hK i2 i4 hb
 ·rw[VP e];exact rS hl hli hcs al hc tw hK i1 i3 hb
end
theorem Bz.upX{ts us:LL}{e:Nat}{x:Et ts}(h:Bz e x)(h1:ts.length<=us.length)(h5:us.length<=5):Bz e (dE us (sX x)):=qH ⟨h5,Nl.mono h.nl h1,h.cb⟩
theorem xZ{s:Nat}{p q:Rat×Rat}(hp:Sm s p)(hq:Sm s q):Cb (8*s+5) [ba p q]:=by
 have h:=(hp.sub hq).dot (hp.sub hq);exact Cb.one (h.mono oz)
abbrev wZ(a b K K' I J:Nat):Nat:=14*a+3*b+5*K+3*K'+I+J+25
abbrev oZ(s a b K K' I J:Nat):Nat:=a+4*wZ a b K K' I J+26*s+18
theorem Bw{n a b ec ex e:Nat}{p:Pq}(h:Pz n ec ex p)(h1:ec<=e)(h2:ex<=e):Pq.ok n e p:=⟨h.c.mono h1,h.s.mono h1,h.x.mono h2,h.y.mono h2⟩
section
variable{ts:LL}{r a b X K K' I J:Nat}(Z:Szs ts.length r a b X K K' I J)(tw:Tw ts r)
include Z tw
theorem Fe{s:Nat}{m:Mt}(hx:Xz ts r X m.ts)(hm:∀x∈m.ps,Nm m.ts.length (13*a+2*b+5*K+2*K'+I+J+20) x.1/\Nm m.ts.length (13*a+2*b+5*K+2*K'+I+J+20) x.2){hs:List Hd}
  (hh:∀h∈hs,Sm s h.p/\Sm s h.c/\bF (bn h.c h.p) (bn h.c h.p)≠0/\∃o:P2 ts,h.a=P2.l o/\Bz a o.1/\Bz a o.2) :
  ∀sv∈mb m hs,Xz ts r X sv.ts/\∀p∈sv.ps,Pq.ok sv.ts.length (oZ s a b K K' I J) p:=by
 have _:=Z;have _:=tw;intro sv h1;unfold mb at h1;obtain⟨i,hi,rfl⟩:=List.mem_map.1 h1;obtain⟨x,hxx⟩:=az (List.mem_range.1 hi);obtain⟨n1,n2⟩:=hm x (mem_of_getElem? hxx);refine⟨hx,fun p hp=>?_⟩;unfold kv at hp;rw[aO hxx]at hp;obtain⟨h,h2,rfl⟩:=List.mem_map.1 hp;obtain⟨hp1,hc1,h0,o,ea,o1,o2⟩:=hh h h2;have h5:=hx.tw.five;have u1:=o1.upX hx.up h5;have u2:=o2.upX hx.up h5;have w1:=qH n1;have w2:=qH n2;have e1:h.a.1=sX o.1:=by rw[ea]
 have e2:h.a.2=sX o.2:=by rw[ea]
 have z:=Id (ts:=m.ts) (u:=bn h.c h.p) (p:=h.p) (w:=jW m.ts h x) (o:=mU m.ts h) (e:=13*a+2*b+5*K+2*K'+I+J+20+a+1) (f:=a) (hc1.sub hp1) hp1 h0
  (by unfold jW;rw[e1];exact w1.sub u1) (by unfold jW;rw[e2];exact w2.sub u2) (by unfold mU;rw[e1];exact u1) (by unfold mU;rw[e2];exact u2)
 exact Bw (a:=a) (b:=b) z (by show _<=a+4*(14*a+3*b+5*K+3*K'+I+J+25)+26*s+18;omega) (by show _<=a+4*(14*a+3*b+5*K+3*K'+I+J+25)+26*s+18;omega)
theorem Mw{s:Nat}{us:LL}(hx:Xz ts r X us){R:Rp}{q:List Rat}(hv:Sm (2*s+1) R.v)(hp:Sm s R.p)(h0:bF R.v R.v≠0)(hq:Bz 1 (dE us q))(w1:Bz (2*a+1) (dE us R.w.1))(w2:Bz (2*a+1) (dE us R.w.2))(hh:Bz b (dE us R.h))
  (hd:Bz J (iE (dE us R.d))) (a1:Bz a (dE us R.a.1)) (a2:Bz a (dE us R.a.2)):Pq.ok us.length (oZ s a b K K' I J) (sZ us R q):=by
 have _:=tw;have hkx:=Z.kx hx.ln;have x1:=(((hq.mul hx.tw hkx w1).sub (hh.mul hx.tw hkx w2.neg)).mul hx.tw hkx hd)
 have x2:=(((hq.mul hx.tw hkx w2).sub (hh.mul hx.tw hkx w1)).mul hx.tw hkx hd)
 have z:=Id (ts:=us) (u:=R.v) (p:=R.p) (w:=jZ us q R.h R.d R.w) (o:=(dE us R.a.1,dE us R.a.2)) (e:=wZ a b K K' I J) (f:=a) hv hp h0
  (x1.mono (by show _<=14*a+3*b+5*K+3*K'+I+J+25;omega)) (x2.mono (by show _<=14*a+3*b+5*K+3*K'+I+J+25;omega)) a1 a2
 exact Bw (a:=a) (b:=b) z (by show _<=a+4*(14*a+3*b+5*K+3*K'+I+J+25)+26*s+18;simp only[wZ];omega) (by show _<=a+4*(14*a+3*b+5*K+3*K'+I+J+25)+26*s+18;simp only[wZ];omega)
end
section
variable{s r b X K K' I J E:Nat}{l:Li}{a:As}(D:DyR l a)(hn:(llq a.rs).length<=1)(hcs:Cs s l)(tw:Tw (llq a.rs) r)
  (Z:Szs (llq a.rs).length r (3*E+2*s+2*K+10) b X K K' I J) (hb:8*s+5<=b)
include D hn hcs tw Z hb
theorem Md{g:Gr}{i k z0 z1 z2:Int}{j0 j1 j2:Jt}(P:RrrP E l a g i k z0 z1 z2 j0 j1 j2) :
  ∀sv∈o5 l a i k j0 j1 j2,Xz (llq a.rs) r X sv.ts/\∀p∈sv.ps,Pq.ok sv.ts.length (oZ s (3*E+2*s+2*K+10) b K K' I J) p:=by
 have _:=hn;have hq0:=oJ D.hl D.li hcs P.h0 P.p0.or;have hq1:=oJ D.hl D.li hcs P.h1 P.p1.or;have hq2:=oJ D.hl D.li hcs P.h2 P.t1;have hq3:=oJ D.hl D.li hcs P.h2 P.t2;obtain⟨y1,y2⟩:=sK D.hl D.li hcs D.al D.hc tw Z.hK P.h0 P.p0;obtain⟨y3,y4⟩:=sK D.hl D.li hcs D.al D.hc tw Z.hK P.h1 P.p1;have z1:Bz b (qE (ba (ah l j2 i) (ah l j0 i)):Et (llq a.rs)):=Bz.q tw.five ((xZ hq2 hq0).mono hb);have z2:Bz b (qE (ba (ah l j2 k) (ah l j1 k)):Et (llq a.rs)):=Bz.q tw.five ((xZ hq3 hq1).mono hb);unfold o5
 by_cases h1:eC [bn (ah l j2 i) (ah l j0 i),bn (ah l j2 k) (ah l j1 k)]=true
 ·rw[VQ h1];intro sv h;cases h
 ·rw[VP h1];obtain⟨w1,w2⟩:=xy (Bool.eq_false_iff.2 h1)
  by_cases h2:eA (am l a j0 i) (am l a j1 k) (qE (ba (ah l j2 i) (ah l j0 i))) (qE (ba (ah l j2 k) (ah l j1 k)))≠0
  ·rw[VQ h2];intro sv h;cases h
  ·rw[VP h2];obtain⟨hx,hm⟩:=Ob Z tw y1 y2 y3 y4 z1 z2 (Decidable.not_not.1 h2);exact Fe Z tw hx hm (jQ ⟨hq0,hq2,w1,_,rfl,y1,y2⟩ ⟨hq1,hq3,w2,_,rfl,y3,y4⟩)
theorem P1{g:Gr}{i z0 z1:Int}{j0 j:Jt}(P:SlP E l a g 2 i z0 z1 j0 j)(ha:j.a=i)(hbd:Pd E a j.b) :
  ∀sv∈nZ l a i j0 j,Xz (llq a.rs) r X sv.ts/\∀p∈sv.ps,Pq.ok sv.ts.length (oZ s (3*E+2*s+2*K+10) b K K' I J) p:=by
 have _:=hn;obtain⟨i1,i2,i3,i4,i5⟩:=dm D.li P.h1;have hq2:Sm s (ax l i j.point):=by rw[<- ha];exact rF D.hl D.li hcs i1 i3
 have hq0:=oJ D.hl D.li hcs P.h0 P.p0.or;obtain⟨y1,y2⟩:=sK D.hl D.li hcs D.al D.hc tw Z.hK P.h0 P.p0;obtain⟨y3,y4⟩:=rS D.hl D.li hcs D.al D.hc tw Z.hK i2 i4 hbd;obtain⟨y5,y6⟩:=rS D.hl D.li hcs D.al D.hc tw Z.hK i2 (i5 P.hk) hbd;have z1:Bz b (qE (ba (ax l i j.point) (ah l j0 i)):Et (llq a.rs)):=Bz.q tw.five ((xZ hq2 hq0).mono hb);unfold nZ
 by_cases h1:eC [bn (ax l i j.point) (ah l j0 i)]=true
 ·rw[VQ h1];intro sv h;cases h
 ·rw[VP h1];have w1:=vf (Bool.eq_false_iff.2 h1)
  by_cases h2:fw (aV l a j.b j.on) (aV l a j.b j.to)≠0
  ·rw[VQ h2];intro sv h;cases h
  ·rw[VP h2];obtain⟨hx,hm⟩:=JL Z tw y3 y4 y5 y6 y1 y2 z1 (Decidable.not_not.1 h2);exact Fe Z tw hx hm (gS ⟨hq0,hq2,w1,_,rfl,y1,y2⟩)
theorem PM{g:Gr}{i z0 z1:Int}{j0 j:Jt}(P:SlP E l a g 3 i z0 z1 j0 j)(hj:j.b=i)(hbd:Pd E a j.a) :
  ∀sv∈oc l a i j0 j,Xz (llq a.rs) r X sv.ts/\∀p∈sv.ps,Pq.ok sv.ts.length (oZ s (3*E+2*s+2*K+10) b K K' I J) p:=by
 obtain⟨i1,i2,i3,i4,i5⟩:=dm D.li P.h1;have hs0:=oJ D.hl D.li hcs P.h0 P.p0.or;have hs1:Sm s (ax l i j.on):=by rw[<- hj];exact rF D.hl D.li hcs i2 i4
 have hs2:Sm s (ax l i j.to):=by rw[<- hj];exact rF D.hl D.li hcs i2 (i5 P.hk)
 have hv:Sm (2*s+1) (fF l i j):=(hs2.sub hs1).mono oz;have qn:Cb b [iz l i j]:=(Cb.one (hv.dot hv)).mono oz;have qh:Cb b [cM l i j0 j]:=(Cb.one (hv.cross (hs1.sub hs0))).mono oz;obtain⟨o1,o2⟩:=sK D.hl D.li hcs D.al D.hc tw Z.hK P.h0 P.p0;obtain⟨p1,p2⟩:=rS D.hl D.li hcs D.al D.hc tw Z.hK i1 i3 hbd;have w1:Bz (2*(3*E+2*s+2*K+10)+1) (er l a i j0 j).1:=Bz.mono (p1.sub o1) oz;have w2:Bz (2*(3*E+2*s+2*K+10)+1) (er l a i j0 j).2:=Bz.mono (p2.sub o2) oz;have hd:Bz (8*(3*E+2*s+2*K+10)+2*K+8) (cK l a i j0 j):=Bz.mono (A4 Z tw (p:=am l a j0 i) (q:=aV l a j.a j.point) o1 o2 p1 p2) oz;have hX:Bz X (aU l a i j0 j):=Bz.mono ((hd.qm qn).sub ((Bz.q tw.five qh).qm qh)) (by have:=Z.hX;omega);have h0:=Hj D.li P.h1 P.hk hj;unfold oc
 by_cases h1:ak (cK l a i j0 j)=0/\ak (qE (cM l i j0 j):Et (llq a.rs))=0
 ·rw[VQ h1];intro sv h;cases h
 ·rw[VP h1]
  by_cases h2:ak (aU l a i j0 j)<0
  ·rw[VQ h2];intro sv h;cases h
  ·rw[VP h2];have hd0:ak (cK l a i j0 j)≠0:=uN tw h2 h1
   have key:∀us,Xz (llq a.rs) r X us->Bz J (iE (dE us (sX (cK l a i j0 j))))->∀q,Bz 1 (dE us q)->Pq.ok us.length (oZ s (3*E+2*s+2*K+10) b K K' I J) (sZ us (dl l a i j0 j) q):=by
    intro us hx hi q hq;have h5:=hx.tw.five
    have hh:Bz b (dE us (sh 0 (cM l i j0 j:Rat))):=by
     have e:dE us (sh 0 (cM l i j0 j:Rat))=qE (cM l i j0 j):=lc _ _;rw[e];exact Bz.q h5 qh
    exact Mw Z tw hx (R:=dl l a i j0 j) hv hs0 h0 hq (w1.upX hx.up h5) (w2.upX hx.up h5) hh hi (o1.upX hx.up h5) (o2.upX hx.up h5)
   by_cases h3:0<ak (aU l a i j0 j)
   ·rw [VQ h3];have hx:=xo tw hn Z.hL hX oz;have hi:=yC Z tw hX (by omega:0 <= ak (aU l a i j0 j)) hd hd0;have rt:=Ae Z tw (x:=aU l a i j0 j);have k:=key _ hx hi;intro sv h;unfold l9 at h;obtain ⟨n,hn2,rfl⟩:=List.mem_map.1 h;refine ⟨hx,fun p hp=>?_⟩;unfold kj at hp;rw [List.mem_singleton.1 hp]
    match n,List.mem_range.1 hn2 with
    |0,_=>exact k _ rt
    |1,_ =>
     refine k _ ?_;show Bz 1 (dE _ (sX (-bK (aU l a i j0 j))));have e:dE (aI (llq a.rs) (sX (aU l a i j0 j))) (sX (-bK (aU l a i j0 j)))=-bK (aU l a i j0 j):=bq _ _;rw[e];exact rt.neg
   ·rw[VP h3];have hx:=yF (X:=X) tw Z.hL;have e:dE (llq a.rs) (sX (cK l a i j0 j))=cK l a i j0 j:=bq _ _
    have hi:Bz J (iE (dE (llq a.rs) (sX (cK l a i j0 j)))):=by
     rw[e];exact(B1 Z tw hd hd0).mono Z.ij
    have k:=key _ hx hi;intro sv h;unfold l9 at h;obtain⟨n,hn2,rfl⟩:=List.mem_map.1 h;refine⟨hx,fun p hp=>?_⟩;unfold kj at hp;rw[List.mem_singleton.1 hp]
    match n,List.mem_range.1 hn2 with
    |0,_=>exact k _ (qH ⟨tw.five,.inl rfl,⟨1,0,⟨by decide,fun q h=>by cases h⟩,by decide,by decide⟩⟩)
end
theorem R9{k:List Bool}{i:Nat}{b:Int}(h:kn (k.set i true) b=true):kn k b=true\/i=b.toNat:=by
 unfold kn at h ⊢
 by_cases e:i=b.toNat
 ·exact .inr e
 ·rw[getD_eq_getElem?_getD,List.getElem?_set_ne e,<- getD_eq_getElem?_getD]at h;exact .inl h
theorem Hm:∀(bs:List Int){k:List Bool}{b:Int},kn (bE k bs) b=true->kn k b=true\/∃x∈bs,x.toNat=b.toNat
 |[],k,b,h=>.inl h
 |x::bs,k,b,h=>by
  have h:kn (bE (k.set x.toNat true) bs) b=true:=h;rcases Hm bs h with h |⟨y,hy,e⟩
  ·rcases R9 h with h |h
   ·exact .inl h
   ·exact .inr ⟨x,mem_cons_self,h⟩
  ·exact .inr ⟨y,mem_cons_of_mem _ hy,e⟩
def uB(l:Li)(kw:List Bool)(out:List Gr):Prop:=∀d∈l.dv,kn kw d.body=true->∃g∈out,g.kind=0/\g.bo=[d.body]
theorem Ta{l:Li}{d:Dr}(hd:d∈l.dv){b:Int}(h:d.body=b):nH l b=true:=by
 unfold nH;rw[List.any_eq_true];exact⟨d,hd,by simp[h]⟩
theorem NE{l:Li}{kw:List Bool}{g:Gr}(h:cT l kw=some g):∀x∈g.bo,ef l kw x=true:=by
 unfold cT at h;rw[map_eq_some_iff]at h;obtain⟨i,hi,h⟩:=h;obtain⟨h1,h2⟩:=fN hi;split at h
 ·rename_i k hk;subst h;unfold gB at hk;rw [map_eq_some_iff] at hk;obtain ⟨k',hk',rfl⟩:=hk;obtain ⟨h3,h4⟩:=fN hk';rw [show i + 1 + k' = k' + (i + 1) by omega] at h4;unfold dz at h4;simp only [Bool.not_eq_false',and_eq_true,decide_eq_true_eq] at h4;obtain ⟨⟨f1,f2⟩,_⟩:=h4;intro x hx;simp only [kK,mem_cons,not_mem_nil,or_false] at hx;rcases hx with rfl | rfl
  ·exact f1
  ·exact f2
 ·rename_i hk;rw[hk]at h2;cases h2
theorem Oy{l:Li}{kw:List Bool}{g:Gr}(h:eO l kw=some g):∀x∈g.bo,ef l kw x=true:=by
 unfold eO at h;rw[map_eq_some_iff]at h;obtain⟨i,hi,rfl⟩:=h;obtain⟨h1,h2⟩:=fN hi;unfold fL at h2;simp only[Bool.not_eq_false',and_eq_true,decide_eq_true_eq]at h2;intro x hx;simp only[jh,mem_cons,not_mem_nil,or_false]at hx;subst hx;exact h2.1
theorem Sy{l:Li}(hl:aG l=0){kw:List Bool}{out:List Gr}{g:Gr}(h:uB l kw out)(hg:cq l kw=some g):uB l (bE kw g.bo) (out++[g]):=by
 intro d hd hk;have ho:=vX hl hg;rcases Hm g.bo hk with h1 |⟨x,hx,e⟩
 ·obtain⟨g',h2,h3⟩:=h d hd h1;exact⟨g',List.mem_append_left _ h2,h3⟩
 ·obtain ⟨i, hi⟩:=List.getElem?_of_mem hd;have hb:=eK (lK hl hi);have hx0:=(ho.b x hx).1;have ex:d.body = x:=by omega
  unfold cq at hg;cases h1:dA l kw with
  |some g' =>
   rw[h1]at hg;cases hg
   refine⟨g,List.mem_append_right _ (List.mem_singleton.2 rfl),?_⟩;unfold dA at h1;rw[map_eq_some_iff]at h1;obtain⟨i,_,rfl⟩:=h1;refine⟨rfl,?_⟩;rw[List.mem_singleton.1 hx]at ex;rw[ex]
  |none =>
   rw[h1]at hg
   have hf:ef l kw x=true:=by
    cases h2:cT l kw with
    |some g'=>rw[h2]at hg;cases hg;exact NE h2 x hx
    |none=>rw[h2]at hg;exact Oy hg x hx
   unfold ef at hf;rw[Ta hd ex]at hf;simp at hf
theorem HJ{l:Li}(hl:aG l=0):∀(n:Nat)(kw:List Bool)(out:List Gr),uB l kw out->uB l (cJ l n kw out).1 (cJ l n kw out).2
 |0,kw,out,h=>h
 |n+1,kw,out,h=>by
  unfold cJ;cases hg:cq l kw with
  |none=>exact h
  |some g=>exact HJ hl n _ _ (Sy hl h hg)
theorem Ik{l:Li}(hl:aG l=0){i:Nat}{d:Dr}(hd:l.dv[i]?=some d):d.body≠0/\∀j d',j<i->l.dv[j]?=some d'->d'.body≠d.body:=by
 have h1:=(dp hl).2.2.1;unfold gg at h1;split at h1
 ·cases h1
 ·have h2:=uz h1 i (List.getElem?_eq_some_iff.1 hd).1;unfold dN at h2;rw[aO hd]at h2;split at h2
  ·cases h2
  ·split at h2
   ·cases h2
   ·split at h2
    ·cases h2
    ·split at h2
     ·cases h2
     ·rename_i h4;split at h2
      ·cases h2
      ·rename_i h5;refine⟨h4,fun j d' hj hd' e=>h5 ?_⟩;rw[List.any_eq_true];exact⟨d',mem_of_getElem? (by rw[getElem?_take,VQ hj];exact hd'),by simpa using e⟩
theorem E3{α:Type}{p:α->Bool}:∀{l:List α}{x y:α},x∈l->y∈l->x≠y->p x=true->p y=true->2<=l.countP p
 |z::l,x,y,hx,hy,hn,px,py=>by
  have pos:∀w,w∈l->p w=true->0<l.countP p:=fun w hw pw=>List.countP_pos_iff.2 ⟨w,hw,pw⟩
  rcases List.mem_cons.1 hx with e |hx
  ·rcases List.mem_cons.1 hy with e2 |hy
   ·exact absurd (e.trans e2.symm) hn
   ·have h9:=pos y hy py;rw[List.countP_cons_of_pos (e▸px)];omega
  ·rcases List.mem_cons.1 hy with e |hy
   ·have h9:=pos x hx px;rw[List.countP_cons_of_pos (e▸py)];omega
   ·have:=E3 hx hy hn px py;rw[List.countP_cons];omega
theorem wM{l:Li}(hl:aG l=0):l.dv.length<=2:=by
 have h1:=(dp hl).2.2.1;unfold gg at h1;split at h1
 ·cases h1
 ·omega
theorem Mg{l:Li}(hl:aG l=0)(hs:cA l=0):∀d∈l.dv,∃g∈aK l,g.kind=0/\g.bo=[d.body]:=by
 have h0:uB l (cU l.bo.length 0) []:=by
  intro d hd hk;obtain⟨i,hi⟩:=List.getElem?_of_mem hd;have hb:=eK (lK hl hi);rw[vd oz oz oz]at hk;exact absurd (of_decide_eq_true hk) (Ik hl hi).1
 have h1:=HJ hl l.bo.length _ _ h0;rw[IH]at h1;intro d hd;obtain⟨i,hi⟩:=List.getElem?_of_mem hd;have hb:=eK (lK hl hi)
 have hz:(fC (cg l)).length=0:=by
  unfold cA at hs;split at hs
  ·omega
  ·cases hs
 rw[A8]at hz
 have hlen:(cg l).length=l.bo.length:=by
  have:∀(gs:List Gr)(k:List Bool),(gs.foldl (fun k g=>bE k g.bo) k).length=k.length:=by
   intro gs
   induction gs with
   |nil=>intro k;rfl
   |cons g gs ih=>intro k;rw[List.foldl_cons,ih,kf]
  unfold cg;rw[this,iI]
 have hk:kn (cg l) d.body=true:=by
  unfold kn;rw[getD_eq_getElem?_getD,getElem?_eq_getElem (by omega:d.body.toNat<(cg l).length)];show(cg l)[d.body.toNat]=true;cases hv:(cg l)[d.body.toNat]'oz with
  |true=>rfl
  |false =>
   exfalso;have hm:false∈cg l:=hv▸List.getElem_mem _;rw[<- List.contains_iff_mem]at hm;rw[hm]at hz;cases hz
 obtain⟨g,hg,h2⟩:=h1 d hd hk;refine⟨g,?_,h2⟩;unfold aK;rw[VQ hs];exact hg
theorem KV{l:Li}(hl:aG l=0)(hs:cA l=0):l.dv.length<=(aK l).countP (fun g=>decide (g.kind=0)):=by
 have h2:=wM hl;have hg:=Mg hl hs
 match hd:l.dv with
 |[]=>simp
 |[d] =>
  obtain⟨g,h3,h4,_⟩:=hg d (by rw[hd];simp);exact List.countP_pos_iff.2 ⟨g,h3,by simpa using h4⟩
 |[d,d'] =>
  obtain⟨g,h3,h4,h5⟩:=hg d (by rw[hd];simp);obtain⟨g',h3',h4',h5'⟩:=hg d' (by rw[hd];simp);refine E3 h3 h3' ?_ (by simpa using h4) (by simpa using h4');intro e;rw[e,h5']at h5;exact(Ik hl (i:=1) (d:=d') (by rw[hd];rfl)).2 0 d oz (by rw[hd];rfl) (by simpa using h5.symm)
 |_::_::_::_=>rw[hd]at h2;simp only[length_cons]at h2;omega
structure Aq where
  ts:LL
  bs:List Pq
  ms:List Int
instance:Inhabited Pq:=⟨⟨[],[],[],[]⟩⟩
instance:Inhabited Aq:=⟨⟨[],[],[]⟩⟩
def Pq.pl(p:Pq):Pl:=⟨p.c.map rt,p.s.map rt,p.x.map rt,p.y.map rt⟩
def Aq.as(a:Aq):As:=⟨a.ts.map (List.map rt),a.bs.map Pq.pl,a.ms⟩
theorem Pq.pl_av(p:Pq):p.pl.av=p.av:=by unfold Pl.av Pq.av Pq.pl;rw[dc,dc,dc,dc]
abbrev Aq.cs(a:Aq):List AV:=[.lst 1 (a.ts.map nA),.lst 4 (a.bs.map Pq.av),.lst 1 (a.ms.map i64)]
abbrev Aq.av(a:Aq):AV:=.agg a.cs
theorem Aq.as_av(a:Aq):a.as.av=a.av:=by
 unfold As.av Aq.as Aq.av Aq.cs;rw[map_map,map_map];congr 3
 ·exact List.map_congr_left (fun x _=>dc x)
 ·congr 1;exact List.map_congr_left (fun x _=>Pq.pl_av x)
theorem Aq.llq(a:Aq):Lw.llq a.as.rs=a.ts:=mo _
def jx(bs:List Pq)(is:List Int)(ps:List Pq):List Pq:=(is.zip ps).foldl (fun k x=>k.set x.1.toNat x.2) bs
def Aq.nxt(a:Aq)(g:Gr)(s:Sv):Aq:=⟨s.ts,jx a.bs g.bo s.ps,a.ms++[s.mode]⟩
def oA:Pq:=⟨[],[],[],[]⟩
def Az:Pq:=⟨[1],[],[],[]⟩
def eS(l:Li):Aq:=⟨[],(List.replicate l.bo.length oA).set 0 Az,[]⟩
def iM:Tn:=⟨⟨false,[],[]⟩,false⟩
def bW(g:Gr)(xs:List Tn):Tn:=if g.kind=0 then xs.getD g.driver.toNat iM else iM
theorem IM:∀(zs:List (Int×Pq))(bs:List Pq),(zs.foldl (fun k x=>k.set x.1.toNat x.2) bs).length=bs.length
 |[],bs=>rfl
 |z::zs,bs=>by rw[List.foldl_cons,IM zs,length_set]
theorem I7:∀(zs:List (Int×Pq))(bs:List Pq)(p:Pq),p∈zs.foldl (fun k x=>k.set x.1.toNat x.2) bs->p∈bs\/∃z∈zs,z.2=p
 |[],bs,p,h=>.inl h
 |z::zs,bs,p,h=>by
  rw[List.foldl_cons]at h;rcases I7 zs _ p h with h |⟨z',hz,e⟩
  ·rcases List.mem_or_eq_of_mem_set h with h |h
   ·exact .inl h
   ·exact .inr ⟨z,mem_cons_self,h.symm⟩
  ·exact .inr ⟨z',mem_cons_of_mem _ hz,e⟩
theorem pI(bs:List Pq)(is:List Int)(ps:List Pq):(jx bs is ps).length=bs.length:=IM _ _
theorem Dw{bs:List Pq}{is:List Int}{ps:List Pq}{p:Pq}(h:p∈jx bs is ps):p∈bs\/p∈ps:=by
 rcases I7 _ _ _ h with h |⟨z,hz,e⟩
 ·exact .inl h
 ·exact .inr (e▸(List.of_mem_zip hz).2)
theorem CO{bs:List Pq}{is:List Int}{ps:List Pq}{i:Nat}{b:Int}{p:Pq}(hb:is[i]?=some b)(hp:ps[i]?=some p) :
  jx bs (is.take (i+1)) (ps.take (i+1))=(jx bs (is.take i) (ps.take i)).set b.toNat p:=by
 have h1:is.take (i+1)=is.take i++[b]:=by rw[List.take_add_one,hb];rfl
 have h2:ps.take (i+1)=ps.take i++[p]:=by rw[List.take_add_one,hp];rfl
 have hl1:=(List.getElem?_eq_some_iff.1 hb).1;have hl2:=(List.getElem?_eq_some_iff.1 hp).1;unfold jx;rw[h1,h2,List.zip_append (by rw[length_take,length_take];omega),List.foldl_append];rfl
def kA(s j r E:Nat):Nat:=3*E+2*s+2*eB r j+10
def j6(s j r E:Nat):Nat:=24*kA s j r E+8*eB r j+5*(8*s+5)+23
def Ff(s j r E:Nat):Nat:=iB r j (8*kA s j r E+2*eB r j+8)
def vN(s j r E:Nat):Nat:=iB (r+j6 s j r E) j (8*kA s j r E+2*eB r j+8)
def rA(s j r E:Nat):Nat:=oZ s (kA s j r E) (8*s+5) (eB r j) (eB (r+j6 s j r E) (j+1)) (Ff s j r E) (vN s j r E)
def nF(s g j r E:Nat):Nat:=kA s j r E+2*g+2*s+4
def eD(s g:Nat):Nat->Nat->Nat->Nat->Nat->Bool
  |0,_,j,r,E=>decide (E<=50000000000/\r<=400000000/\j<=2)
  |n+1,y,j,r,E=>decide (E<=20000000000/\r<=400000000/\j<=2)&&(eD s g n y j r (nF s g j r E) &&
      (decide (y=0)||(decide (j<=1/\E<=3900000/\r<=64990/\r+j6 s j r E<=5000000000/\vN s j r E<=50000000000)&&eD s g n (y-1) (j+1) (r+j6 s j r E) (rA s j r E))))
theorem Dn:eD 32 134 3 1 0 0 2=true:=by decide +kernel
theorem KJ:eD 9 42 4 2 0 0 2=true:=by decide +kernel
theorem Bc{s g n y j r E:Nat}(h:eD s g n y j r E=true):E<=50000000000/\r<=400000000/\j<=2:=by
 cases n with
 |zero=>exact of_decide_eq_true h
 |succ n =>
  unfold eD at h;simp only[and_eq_true,decide_eq_true_eq]at h;exact⟨by omega,h.1.2.1,h.1.2.2⟩
theorem ut{s g n y j r E:Nat}(h:eD s g (n+1) y j r E=true):(E<=20000000000/\r<=400000000/\j<=2)/\eD s g n y j r (nF s g j r E)=true:=by
 unfold eD at h;simp only[and_eq_true,decide_eq_true_eq]at h;exact⟨h.1,h.2.1⟩
theorem ur{s g n y j r E:Nat}(h:eD s g (n+1) (y+1) j r E=true):(j<=1/\E<=3900000/\r<=64990/\r+j6 s j r E<=5000000000/\vN s j r E<=50000000000)/\eD s g n y (j+1) (r+j6 s j r E) (rA s j r E)=true:=by
 unfold eD at h;simp only[and_eq_true,or_eq_true,decide_eq_true_eq,Nat.add_sub_cancel]at h;rcases h.2.2 with h1 |h1
 ·omega
 ·exact h1
structure QInv(l:Li)(j r E:Nat)(a:Aq):Prop where
  tw:Tw a.ts r
  lv:a.ts.length<=j
  bs:∀p∈a.bs,Pq.ok a.ts.length E p
  ln:a.bs.length=l.bo.length
theorem Pq.ok.up{n n' e e':Nat}{p:Pq}(h:Pq.ok n e p)(hn:n<=n')(h5:n'<=5)(he:e<=e'):Pq.ok n' e' p :=
 ⟨⟨h5,h.c.nl.mono hn,h.c.cb.mono he⟩,⟨h5,h.s.nl.mono hn,h.s.cb.mono he⟩,⟨h5,h.x.nl.mono hn,h.x.cb.mono he⟩,⟨h5,h.y.nl.mono hn,h.y.cb.mono he⟩⟩
theorem Pq.ok.lv{n m e:Nat}{p:Pq}(h:Pq.ok n e p)(hn:n=m):Pq.ok m e p:=hn▸h
theorem vq{r r':Nat}(h:r<=r'):∀j,eB r j<=eB r' j
 |0=>le_refl _
 |j+1=>by have:=vq h j;simp only[eB];omega
theorem Cl{r r':Nat}(h:r<=r'):∀j e,iB r j e<=iB r' j e
 |0,e=>le_refl _
 |j+1,e=>by
  have h1:=vq h j;have h2:=vq h (j+1);have h3:=Cl h j (4*e+3*eB r j+r+1);have h4:=tB r' j (e:=4*e+3*eB r j+r+1) (f:=4*e+3*eB r' j+r'+1) oz;simp only[iB];omega
theorem u5:Pq.ok 0 2 oA:=by
 have h:Nm 0 2 []:=⟨by omega,.inl rfl,⟨1,0,⟨by decide,fun q h=>by cases h⟩,by decide,by decide⟩⟩
 exact⟨h,h,h,h⟩
theorem KC:Pq.ok 0 2 Az:=by
 have h:Nm 0 2 [1]:=⟨by omega,.inr ⟨0,le_refl _,rfl⟩,Cb.mono (Cb.int (z:=1) (e:=1) (by decide)) oz⟩
 exact⟨h,u5.c,u5.c,u5.c⟩
theorem yc:Tw [] 0:=⟨by decide,(fun j h=>by cases h),(fun j h=>by cases h),⟨1,1,by decide,(fun d h=>by cases h),by decide,by decide⟩,by omega⟩
theorem IX(l:Li):QInv l 0 0 2 (eS l):=by
 refine⟨yc,le_refl _,fun p hp=>?_,by simp[eS]⟩;rcases List.mem_or_eq_of_mem_set hp with h |h
 ·rw[(List.mem_replicate.1 h).2];exact u5
 ·rw[h];exact KC
theorem Pq.ok.nr{n e:Nat}{p:Pq}(h:Pq.ok n e p)(he:e<=lm n):∀x∈p.pl.l,NR x e:=by
 intro x hx;simp only[Pl.l,Pq.pl,mem_cons,not_mem_nil,or_false]at hx;rcases hx with rfl |rfl |rfl |rfl
 ·exact h.c.rt he
 ·exact h.s.rt he
 ·exact h.x.rt he
 ·exact h.y.rt he
theorem Pq.ok.num{n e:Nat}{p:Pq}(h:Pq.ok n e p):∀x∈p.pl.l,bQ n x=0:=by
 intro x hx;simp only[Pl.l,Pq.pl,mem_cons,not_mem_nil,or_false]at hx;rcases hx with rfl |rfl |rfl |rfl
 ·exact pF h.c.nl
 ·exact pF h.s.nl
 ·exact pF h.x.nl
 ·exact pF h.y.nl
section
variable{l:Li}{j r E:Nat}{a:Aq}(Q:QInv l j r E a)
include Q
theorem QInv.chk:bc a.as.rs=0:=Q.tw.chk
theorem QInv.mem{p:Pl}(h:p∈a.as.bs):∃q∈a.bs,q.pl=p:=by have _:=Q;exact List.mem_map.1 h
theorem QInv.nr(hE:E<=50000000000){p:Pl}(h:p∈a.as.bs):∀x∈p.l,NR x E:=by
 obtain⟨q,hq,rfl⟩:=Q.mem h;exact(Q.bs q hq).nr (le_trans hE (ju _))
theorem QInv.ab(hl:aG l=0)(hE:E<=50000000000)(hr:r<=400000000):AB a.as:=by
 refine⟨Q.tw.tr.mono hr oz,fun p hp x hx=>(Q.nr hE hp x hx).mono hE,?_,?_⟩
 ·show(a.ts.map _).length<=8;rw[length_map];have:=Q.tw.three;omega
 ·show(a.bs.map _).length<=30;rw[length_map,Q.ln];have:=(dp hl).2.2.2.1;omega
theorem QInv.sma(hE:E<=50000000000){F:Nat}(hF:E<=F)(k:Int)(own:Bool):qj F l k a.as own :=
 fun b _ _ p hp x hx=>(Q.nr hE (mem_of_getElem? hp) x hx).mono hF
theorem QInv.nd(hl:aG l=0){g:Gr}(hg:GrOk l g){own:Bool}:∀b∈bZ l g own,eT a.as b=0:=by
 intro b hb;unfold eT;split
 ·rfl
 ·have h1:=wL hl hg b hb;obtain ⟨p,hp⟩:=az (l:=a.bs) (i:=b.toNat) (by rw [Q.ln]; omega);have e:a.as.bs[b.toNat]? = some p.pl:=by show (a.bs.map Pq.pl)[b.toNat]? = _; rw [getElem?_map,hp]; rfl
  rw[aO e];unfold aZ;rw[VP (by rw[Q.chk];simp)];have e2:a.as.rs.length=a.ts.length:=length_map _;rw[e2];exact lQ (fun x hx=>(Q.bs p (mem_of_getElem? hp)).num x hx)
theorem QInv.dy0(hl:aG l=0)(hs:cA l=0){k:Nat}{g:Gr}(hg:(aK l)[k]?=some g)(own:Bool):fe l k a.as own=0:=by
 have hk:=(List.getElem?_eq_some_iff.1 hg).1;obtain⟨_,ho⟩:=nV hl (mem_of_getElem? hg);have hgA:fI l (k:Nat)=g:=aO hg;rw[ol hl,Ao hs oz (by show(a.bs.map _).length=_;rw[length_map,Q.ln]) Q.chk,hgA];exact lQ (fun b hb=>Q.nd hl ho b (qd.1 hb))
end
structure WkC(l:Li)(xs:List Tn)(s g:Nat):Prop where
  hl:l.ok
  li:aG l=0
  sp:cA l=0
  cs:Cs s l
  ln:xs.length=l.dv.length
  ok:∀x∈xs,x.t.ok/\x.err=0/\Qb 1000 x.t.q/\Cb g [fv x.half x.t.q]/\Cb g [fA x.half x.t.q]
theorem BY{l:Li}{g:Gr}(h:DyK l g)(hk:g.kind=0):0<=g.driver/\g.driver<l.dv.length:=by
 cases h with
 | @drv b z d _ _ t d0 hd hb=>have:=(List.getElem?_eq_some_iff.1 hd).1;exact⟨d0,by show d<_;omega⟩
 |rrr=>exact absurd hk (by simp)
 |pr=>exact absurd hk (by simp)
 |rp=>exact absurd hk (by simp)
theorem Bq:iM.t.ok:=⟨(fun x h=>by cases h),(fun x h=>by cases h),zero_le _,zero_le _⟩
theorem D8:Qb 1000 iM.t.q:=by
 have e:iM.t.q=0:=by decide +kernel
 rw[e];exact Qb.zero.mono oz
section
variable{l:Li}{xs:List Tn}{s g:Nat}(W:WkC l xs s g){k:Nat}{gr:Gr}(hg:(aK l)[k]?=some gr)
include W hg
theorem WkC.grp:DyK l gr/\GrOk l gr:=nV W.li (mem_of_getElem? hg)
theorem WkC.tn:(bW gr xs).t.ok/\Qb 1000 (bW gr xs).t.q/\(gr.kind=0->∃x∈xs,bW gr xs=x):=by
 unfold bW
 by_cases hk:gr.kind=0
 ·rw[VQ hk];have h:=BY (W.grp hg).1 hk;obtain⟨x,hx⟩:=az (l:=xs) (i:=gr.driver.toNat) (by rw[W.ln];omega);rw[aO hx];have hm:=mem_of_getElem? hx;exact⟨(W.ok x hm).1,(W.ok x hm).2.2.1,fun _=>⟨x,hm,rfl⟩⟩
 ·rw[VP hk];exact⟨Bq,D8,fun h=>absurd h hk⟩
variable{j r E:Nat}{a:Aq}(Q:QInv l j r E a)
include Q
theorem QInv.dyOk{F:Nat}(hE:E<=50000000000)(hF:E<=F):DyOk F l k a.as false k gr:=by
 obtain⟨i,g',h⟩:=Ad (Q.sma hE hF k false) (Q.dy0 W.li W.sp hg false);have e:i=k:=by have:=h.hk;omega
 subst e;have:=h.hg;rw[hg]at this;cases this;exact h
theorem QInv.dyS(hr:r<=64990)(hj:j<=1):DyS a.as:=by have _:=W;have _:=hg;exact⟨Q.tw.tr.mono hr oz,fun _=>by rw[a.llq];exact le_trans Q.lv hj⟩
theorem QInv.dyW(hE:E<=50000000000)(hr:r<=400000000):DyW l a.as:=by have _:=hg;exact⟨W.hl,W.li,Q.ab W.li hE hr,Q.chk⟩
theorem QInv.twl:Tw (Lw.llq a.as.rs) r:=by have _:=W;have _:=hg;rw[a.llq];exact Q.tw
theorem QInv.drv{n y:Nat}(ok:eD s g (n+1) y j r E=true)(hk:gr.kind=0):∀sv∈eM l a.as gr (bW gr xs),QInv l j r (nF s g j r E) (a.nxt gr sv):=by
 obtain⟨⟨hE,hr,hj⟩,_⟩:=ut ok;have D:=QInv.dyW W hg Q oz hr;have O:=QInv.dyOk W hg Q (F:=E) oz (le_refl _);obtain⟨i,z0,d,j0,e,hj0,p0⟩:=wm O hk;obtain⟨_,_,hx⟩:=W.tn hg;obtain⟨x,hx,ex⟩:=hx hk;obtain⟨_,he,_,hc,hs⟩:=W.ok x hx;have hlen:(Lw.llq a.as.rs).length=a.ts.length:=by rw[a.llq]
 have tw:=QInv.twl W hg Q;have hq0:=oJ W.hl W.li W.cs hj0 p0.or;have hK:eB r (Lw.llq a.as.rs).length<=eB r j:=gz r (by rw[hlen];exact Q.lv);obtain⟨o1,o2⟩:=sK W.hl W.li W.cs D.al D.hc tw hK hj0 p0;rw[ex];unfold eM;rw[VQ hk,e];show ∀sv∈oC l a.as i (l.jo.getD z0.toNat default) x,_;rw[aO hj0];unfold oC;rw[VP oz];have hp:=SD (ts:=Lw.llq a.as.rs) (p:=ah l j0 i) (o:=am l a.as j0 i) hc hs hq0 tw.five o1 o2
 have hp2:Pq.ok a.ts.length (nF s g j r E) (sC l a.as i j0 x):=by
  have:=Bw (a:=0) (b:=0) hp (e:=nF s g j r E) (by unfold nF kA;omega) (by unfold nF kA;omega);exact Pq.ok.lv this hlen
 refine gS ⟨?_,?_,?_,?_⟩
 ·exact tw
 ·show(Lw.llq a.as.rs).length<=j;rw[hlen];exact Q.lv
 ·intro p hp3;show Pq.ok (Lw.llq a.as.rs).length _ p;rw[hlen];rcases Dw hp3 with h |h
  ·exact(Q.bs p h).up (le_refl _) Q.tw.five (by unfold nF kA;omega)
  ·rw[List.mem_singleton.1 h];exact hp2
 ·exact(pI _ _ _).trans Q.ln
theorem QInv.dy{n y:Nat}(ok:eD s g (n+1) (y+1) j r E=true)(hk:gr.kind≠0):∀sv∈eM l a.as gr (bW gr xs),QInv l (j+1) (r+j6 s j r E) (rA s j r E) (a.nxt gr sv):=by
 obtain⟨⟨hj,hE,hr,hX,hJ⟩,_⟩:=ur ok;have D:DyR l a.as:=⟨QInv.dyW W hg Q oz oz,QInv.dyS W hg Q hr hj⟩
 have O:=QInv.dyOk W hg Q (F:=E) oz (le_refl _);have hlen:(Lw.llq a.as.rs).length=a.ts.length:=by rw[a.llq]
 have hlv:(Lw.llq a.as.rs).length<=j:=by rw[hlen];exact Q.lv
 have tw:=QInv.twl W hg Q
 have Z:Szs (Lw.llq a.as.rs).length r (3*E+2*s+2*eB r j+10) (8*s+5) (j6 s j r E) (eB r j) (eB (r+j6 s j r E) (j+1)) (Ff s j r E) (vN s j r E):=by
  refine⟨by omega,gz r hlv,?_,hX,gz _ oz,?_,?_,hJ,?_,?_⟩
  ·unfold j6 kA;omega
  ·exact xb r _ hlv
  ·exact xb _ _ hlv
  ·exact le_trans (gz r oz) (vq oz _)
  ·exact Cl oz _ _
 have hn:(Lw.llq a.as.rs).length<=1:=by omega
 have key:∀sv∈eM l a.as gr (bW gr xs),Xz (Lw.llq a.as.rs) r (j6 s j r E) sv.ts/\∀p∈sv.ps,Pq.ok sv.ts.length (rA s j r E) p:=by
  unfold eM;rw[VP hk]
  by_cases hk1:gr.kind=1
  ·obtain⟨i,k2,z0,z1,z2,j0,j1,j2,P⟩:=O.rrr hk1;obtain⟨e0,e1,e2,b0,b1,_⟩:=P.at;rw[VQ hk1,e0,e1,e2,b0,b1];exact Md D hn W.cs tw Z (le_refl _) P
  ·rw[VP hk1]
   by_cases hk2:gr.kind=2
   ·obtain⟨i,z0,z1,j0,j,P,ha,hb⟩:=O.pr hk2;obtain⟨e0,e1,b0,_⟩:=P.at;rw[VQ hk2,e0,e1,b0];exact P1 D hn W.cs tw Z (le_refl _) P ha hb
   ·obtain⟨i,z0,z1,j0,j,P,_,hj,hb⟩:=O.rp hk hk1 hk2;obtain⟨e0,e1,b0,hk3⟩:=P.at;rw[VP hk2,e0,e1,b0];exact PM D hn W.cs tw Z (le_refl _) P hj hb
 intro sv hsv;obtain⟨hx,hp⟩:=key sv hsv;have h5:=hx.tw.five;have hup:=hx.up;have hln:=hx.ln;rw[hlen]at hup hln;refine⟨hx.tw,?_,?_,?_⟩
 ·show sv.ts.length<=j+1;have:=Q.lv;omega
 ·intro p hp3;rcases Dw hp3 with h |h
  ·exact(Q.bs p h).up hup h5 (by unfold rA oZ wZ kA;omega)
  ·exact hp p h
 ·exact(pI _ _ _).trans Q.ln
end
def jM(l:Li)(a:As)(g:Gr)(x:Tn):Nat:=(iU l a g x).2
def dV(F:Int->Bool)(sg:Bool)(f:Sv->List Aq×Nat):List Sv->List Aq×Nat
  |[]=>([],0)
  |s::r=>if F s.mode=false then dV F sg f r else if(f s).2≠0 then f s else if sg=true then f s else((f s).1++(dV F sg f r).1,(dV F sg f r).2)
def gj(F:Nat->Int->Bool)(sg:Bool)(l:Li)(xs:List Tn)(gs:List Gr):Nat->Aq->List Aq×Nat
  |0,a=>([a],0)
  |n+1,a=>if jM l a.as (gs.getD a.ms.length default) (bW (gs.getD a.ms.length default) xs)≠0 then([],jM l a.as (gs.getD a.ms.length default) (bW (gs.getD a.ms.length default) xs))
    else dV (F a.ms.length) sg (fun s=>gj F sg l xs gs n (a.nxt (gs.getD a.ms.length default) s)) (eM l a.as (gs.getD a.ms.length default) (bW (gs.getD a.ms.length default) xs))
theorem Rb{l:Li}{xs:List Tn}{s g:Nat}(W:WkC l xs s g){k:Nat}{gr:Gr}(hg:(aK l)[k]?=some gr){j r E:Nat}{a:Aq}(Q:QInv l j r E a){n y:Nat}(ok:eD s g (n+1) y j r E=true)(hy:gr.kind≠0->0<y) :
  SolP (eM l a.as gr (bW gr xs)) gr.kind a.ts.length gr.bo.length:=by
 obtain⟨⟨hE,hr,hj⟩,_⟩:=ut ok;have D:=QInv.dyW W hg Q oz hr;have h3:(Lw.llq a.as.rs).length<=2:=by rw[a.llq];have:=Q.lv;omega
 have hlen:(Lw.llq a.as.rs).length=a.ts.length:=by rw[a.llq]
 rw[<- hlen]
 by_cases hk:gr.kind=0
 ·exact EJ hE D h3 (QInv.dyOk W hg Q (F:=E) oz (le_refl _)) (fun h=>absurd hk h) (W.tn hg).2.1
 ·have hy:=hy hk;obtain ⟨y',rfl⟩:∃ y',y = y' + 1:=⟨y - 1,by omega⟩
  obtain⟨⟨hj,hE,hr,hX,hJ⟩,_⟩:=ur ok;exact EJ oz D h3 (QInv.dyOk W hg Q (F:=3900000) oz hE) (fun _=>⟨rfl,QInv.dyS W hg Q hr hj⟩) (W.tn hg).2.1
theorem HW{P:Program}{f:FuncId}{sz:Nat}{r:AV}{H H':Hp}(h:∀(a:Option Addr)(cap:Nat),Con P f [.v (.slice a 0 cap)] H r H'):Con P f [.lst sz []] H r H' :=
 ⟨(h none 0).ok,fun ext m w vs he hr hn hv=>by
  have hn1:vs.size=1:=hn;have h0:=hv 0 vs[0] (.lst sz []) (by simp[hn1]) rfl
  have hy:∃a cap,vs[0]=.slice a 0 cap:=by
   generalize vs[0]=y at h0;cases h0 with
   |lst0 a cap=>exact⟨_,_,rfl⟩
   |lst u hb hc hl hs h1 hu hrr=>exact⟨_,_,rfl⟩
  obtain⟨a,cap,hy⟩:=hy;refine(h a cap).ret ext m w vs he hr hn (fun j v x hv2 hx=>?_)
  match j,hx with
  |0,hx =>
   cases hx;have:v=.slice a 0 cap:=by rw[<- hy];have:=Array.getElem?_eq_some_iff.1 hv2;exact this.2.symm
   subst this;exact .v _⟩
theorem SE(e:AV)(es:List AV)(hc:∀x∈e::es,x.cells.length=1)(hl:(e::es).length<=1000):Con prog 287 [.lst 1 (e::es)] [] (.ms 901 1 0 (e::es).length) [(901,some (.row 1 (e::es)))]:=by
 refine gF func287 (fun k z h=>by cases h) ?_;refine gs (CS (.tmp rfl) (by kernel_rfl) rfl) ?_;refine gC (fun t4=>?_) (fun t4=>?_) (st1:=(2,0));cases t4;refine gs (gf T39 rfl T3 rfl rfl rfl) ?_;refine gs (bO (.tmp rfl) rfl rfl (.tmp rfl) T39 rfl T3 rfl rfl (by simp only[];omega) rfl rfl) ?_ (77777,0);refine gW (Wk.of (sl:=[(2,some (.ms 7 1 0 (e::es).length))]) (hp:=[(7,some (.row 1 (e::es)))]) (.cons rfl (Sub.of (congrArg (AV.ms 7 1 0) (Nat.zero_add _))) .nil) (.k .nil)) ?_;refine gR ?_;exact aA.own1 rfl rfl rfl
theorem Vi(a:Option Addr)(cap:Nat):Con prog 287 [.v (.slice a 0 cap)] [] (.ms 901 1 0 0) [(901,some (.row 1 []))]:=by
 refine gF func287 (fun k z h=>by cases h) ?_;refine gs (DL (.tmp rfl) (by kernel_rfl) rfl) ?_;refine gC (fun t4=>?_) (fun t4=>?_) (st1:=(2,0)) (st2:=(77777,0))
 ·refine gW ((Wk.virt 901 1 rfl).trans<|Wk.o (sl:=[]) (hp:=[(901,some (.row 1 []))])) ?_;refine gR ?_;exact(aA.keep (bi rfl)).sub (Sub.nM _ _ _)
 refine gW (Wk.of (sl:=[(0,some (.lst 1 []))]) (hp:=[]) (.cons rfl (Sub.nil _ _ _) .nil) .nil) ?_;refine gs (gf T39 rfl T3 rfl rfl rfl) ?_;refine gs (bO (.tmp rfl) rfl rfl (.tmp rfl) T39 rfl T3 rfl rfl (by simp) rfl rfl) ?_ (77777,0);refine gW (Wk.o (sl:=[(2,some (.ms 7 1 0 0))]) (hp:=[(7,some (.row 1 []))])) ?_;refine gR ?_;exact aA.own1 rfl rfl rfl
theorem LE(e:AV)(es:List AV)(hc:∀x∈e::es,x.cells.length=4)(hl:(e::es).length<=1000):Con prog 289 [.lst 4 (e::es)] [] (.ms 900 4 0 (e::es).length) [(900,some (.row 4 (e::es)))]:=by
 refine gF func289 (fun k z h=>by cases h) ?_;refine gs (CS (.tmp rfl) (by kernel_rfl) rfl) ?_;refine gC (fun t4=>?_) (fun t4=>?_) (st1:=(2,0));cases t4;refine gs (gf T38 rfl T69 rfl rfl rfl) ?_;refine gs (bO (.tmp rfl) rfl rfl (.tmp rfl) T38 rfl T69 rfl rfl (by simp only[];omega) rfl rfl) ?_ (77777,0);refine gW (Wk.of (sl:=[(2,some (.ms 7 4 0 (e::es).length))]) (hp:=[(7,some (.row 4 (e::es)))]) (.cons rfl (Sub.of (congrArg (AV.ms 7 4 0) (Nat.zero_add _))) .nil) (.k .nil)) ?_;refine gR ?_;exact aA.own1 rfl rfl rfl
theorem QD(a:Option Addr)(cap:Nat):Con prog 289 [.v (.slice a 0 cap)] [] (.ms 900 4 0 0) [(900,some (.row 4 []))]:=by
 refine gF func289 (fun k z h=>by cases h) ?_;refine gs (DL (.tmp rfl) (by kernel_rfl) rfl) ?_;refine gC (fun t4=>?_) (fun t4=>?_) (st1:=(2,0)) (st2:=(77777,0))
 ·refine gW ((Wk.virt 900 4 rfl).trans<|Wk.o (sl:=[]) (hp:=[(900,some (.row 4 []))])) ?_;refine gR ?_;exact(aA.keep (bi rfl)).sub (Sub.nM _ _ _)
 refine gW (Wk.of (sl:=[(0,some (.lst 4 []))]) (hp:=[]) (.cons rfl (Sub.nil _ _ _) .nil) .nil) ?_;refine gs (gf T38 rfl T69 rfl rfl rfl) ?_;refine gs (bO (.tmp rfl) rfl rfl (.tmp rfl) T38 rfl T69 rfl rfl (by simp) rfl rfl) ?_ (77777,0);refine gW (Wk.o (sl:=[(2,some (.ms 7 4 0 0))]) (hp:=[(7,some (.row 4 []))])) ?_;refine gR ?_;exact aA.own1 rfl rfl rfl
theorem FY(es:List AV)(hc:∀x∈es,x.cells.length=1)(hl:es.length<=1000):Con prog 287 [.lst 1 es] [] (.ms 901 1 0 es.length) [(901,some (.row 1 es))]:=by
 cases es with
 |nil=>exact HW Vi
 |cons e es=>exact SE e es hc hl
theorem MH(es:List AV)(hc:∀x∈es,x.cells.length=4)(hl:es.length<=1000):Con prog 289 [.lst 4 es] [] (.ms 900 4 0 es.length) [(900,some (.row 4 es))]:=by
 cases es with
 |nil=>exact HW QD
 |cons e es=>exact LE e es hc hl
theorem Rx(es:List AV)(hc:∀x∈es,x.cells.length=1)(hl:es.length<=1000):FP 287 [.lst 1 es] (.lst 1 es):=by
 have h:=Con.freeze oz (FY es hc hl)
 rwa [drop_zero,take_length]at h
theorem Ge(ms:List Int):∀x∈ms.map i64,x.cells.length=1:=fun x hx=>by obtain⟨m,_,rfl⟩:=List.mem_map.1 hx;rfl
theorem Mq(bs:List Pq):∀x∈bs.map Pq.av,x.cells.length=4:=fun x hx=>by obtain⟨m,_,rfl⟩:=List.mem_map.1 hx;rfl
theorem sN{n e:Nat}{x:List Rat}(h:Nm n e x)(he:e<=100000000000):FP 288 [nA x] (nA x):=by
 have hlen:=h.nl.len5 h.five;have hqs:∀q∈x,Qs q:=fun q hq=>h.cb.qs oz hq
 refine af func288 ?_;refine gl ?_;refine gW (Wk.virt 901 3 rfl) ?_;refine aN [6,7] [] (fun(j:Nat)=>[(3,some (.ms 901 3 0 j)),(8,some (i64 j))]) (fun j=>[(901,some (.row 3 ((x.take j).map qA)))]) (fun j=>j<=x.length) (fun j=>x.length-j) 0 (zero_le _) ?_ (h1:=(.cons rfl (Sub.nM _ _ _) (.k .nil)));rintro j hj K1 J1;refine gC (fun t9=>?_) (fun t9=>?_) (st2:=(7,0))
 ·have hjn:=aT t9;obtain⟨q,hq⟩:=az hjn;have hadd:=n6 (rt q) (rt 0) (hqs q (mem_of_getElem? hq)).ok Qs.zero.ok;rw[uw,bt]at hadd;refine gi (ay hq) ?_;refine gc (Con.sA (.cons (.refl _) (.cons gL .nil)) hadd) ?_;refine gs (bO (.tmp rfl) rfl (by rw[length_map,length_take];omega) (.tmp rfl) T67 rfl T45 rfl rfl (by simp only[length_cons,length_nil];omega) rfl rfl) ?_ (6,0);refine gW (Wk.of (sl:=[(6,some (nA x)),(7,some (i64 x.length)),(8,some (i64 j)),(3,some (.ms 17 3 0 (j+1)))]) (hp:=[(17,some (.row 3 ((x.take (j+1)).map qA)))]) aR (.cons rfl (BlkSub.of (by rw[cD hq,map_append];rfl)) .nil)) ?_ (6,0);refine gW (Wk.rk (k:=17) (d:=901) rfl rfl) ?_;refine ga aE ?_;exact aH J1 (j+1) hjn
 have hjn:=a8 hj t9;subst hjn;refine gW ((Wk.freeze (k:=901) rfl).trans<|Wk.of (sl:=[(3,some (nA x))]) (hp:=[]) (.cons rfl (Sub.of (by rw[bD (by simp)];simp[nA])) .nil) .nil) ?_;refine ae ?_;rfl
theorem PJ{a:Aq}{n e:Nat}(h5:n<=5)(ht:∀x∈a.ts,Nm n e x)(hb:∀p∈a.bs,Pq.ok n e p)(he:e<=100000000000)(l1:a.ts.length<=100)(l2:a.bs.length<=100)(l3:a.ms.length<=100):FP 190 [a.av] a.av:=by
 refine af func190 ?_;refine gc (Rx _ (Ge _) (by rw[length_map];omega)) ?_;refine gl ?_;refine gW (Wk.virt 900 1 rfl) ?_;refine aN [1,2,3,14,15] [1,2] (fun(i:Nat)=>[(16,some (i64 i))]) (fun i=>[(3,some (.box [.ms 900 1 0 i,nS,.lst 1 (a.ms.map i64)])),(900,some (.row 1 ((a.ts.take i).map nA)))]) (fun i=>i<=a.ts.length) (fun i=>a.ts.length-i) 0 (zero_le _) ?_ (h2:=(.cons rfl (BlkSub.bL (.cons (.nM _ _ _) (.cons (.refl _) (.cons (.refl _) .nil))) rfl) (.k .nil)));rintro i hi K1 J1;refine gC (fun t17=>?_) (fun t17=>?_) (st2:=(7,0))
 ·have hin:=aT t17;obtain ⟨d,hd⟩:=az hin;refine gi (ay hd) ?_;refine gc (sN (ht d (mem_of_getElem? hd)) he) ?_;refine gs (bO (.tmp rfl) rfl (by rw [length_map,length_take]; omega) (.tmp rfl) T35 rfl T67 rfl rfl (by simp only [length_cons,length_nil]; omega) rfl rfl) ?_;refine gD ?_ (6,0);refine gW (Wk.of (sl:=[(1,some (.ptr 1 0)),(2,some (.ptr 2 0)),(3,some (.ptr 3 0)),(14,some (.lst 1 (a.ts.map nA))),(15,some (i64 a.ts.length)),(16,some (i64 i))]) (hp:=[(1,some (.box a.cs)),(2,some (.box [nS,nS,nS])),(3,some (.box [.ms 26 1 0 (i + 1),nS,.lst 1 (a.ms.map i64)])),(26,some (.row 1 ((a.ts.take (i + 1)).map nA)))]) aR (.k (.k (.k (.cons rfl (BlkSub.of (by rw [cD hd,map_append]; rfl)) .nil))))) ?_ (6,0)
  refine gW (Wk.rk (k:=26) (d:=900) rfl rfl) ?_;refine ga aE ?_;exact aH J1 (i+1) hin
 have hin:=a8 hi t17;subst hin;refine gW ((Wk.freeze (k:=900) rfl).trans<|Wk.of (sl:=[(1,some (.ptr 1 0)),(2,some (.ptr 2 0)),(3,some (.ptr 3 0))]) (hp:=[(1,some (.box a.cs)),(2,some (.box [nS,nS,nS])),(3,some (.box [.lst 1 (a.ts.map nA),nS,.lst 1 (a.ms.map i64)]))]) aR (.k (.k (.cons rfl (BlkSub.bL (.cons (Sub.of (by rw[bD (by simp)];simp)) (.cons (.refl _) (.cons (.refl _) .nil))) rfl) .nil)))) ?_;refine gl ?_;refine gW (Wk.virt 902 4 rfl) ?_;refine aN [1,2,3,31,32] [1,2] (fun(i:Nat)=>[(33,some (i64 i))]) (fun i=>[(3,some (.box [.lst 1 (a.ts.map nA),.ms 902 4 0 i,.lst 1 (a.ms.map i64)])),(902,some (.row 4 ((a.bs.take i).map Pq.av)))]) (fun i=>i<=a.bs.length) (fun i=>a.bs.length-i) 0 (zero_le _) ?_ (h2:=(.cons rfl (BlkSub.bL (.cons (.refl _) (.cons (.nM _ _ _) (.cons (.refl _) .nil))) rfl) (.k .nil)));rintro i hi K2 J2;refine gC (fun t34=>?_) (fun t34=>?_) (st2:=(12,0))
 ·have hin:=aT t34;obtain ⟨p,hp⟩:=az hin;have ok:=hb p (mem_of_getElem? hp);refine gi (ay hp) ?_;refine gc (sN ok.c he) ?_;refine gc (sN ok.s he) ?_;refine gc (sN ok.x he) ?_;refine gc (sN ok.y he) ?_;refine gs (bO (.tmp rfl) rfl (by rw [length_map,length_take]; omega) (.tmp rfl) T38 rfl T69 rfl rfl (by simp only [length_cons,length_nil]; omega) rfl rfl) ?_;refine gD ?_ (11,0);refine gW (Wk.of (sl:=[(1,some (.ptr 1 0)),(2,some (.ptr 2 0)),(3,some (.ptr 3 0)),(31,some (.lst 4 (a.bs.map Pq.av))),(32,some (i64 a.bs.length)),(33,some (i64 i))]) (hp:=[(1,some (.box a.cs)),(2,some (.box [nS,nS,nS])),(3,some (.box [.lst 1 (a.ts.map nA),.ms 53 4 0 (i + 1),.lst 1 (a.ms.map i64)])),(53,some (.row 4 ((a.bs.take (i + 1)).map Pq.av)))]) aR (.k (.k (.k (.cons rfl (BlkSub.of (by rw [cD hp,map_append]; rfl)) .nil))))) ?_ (11,0)
  refine gW (Wk.rk (k:=53) (d:=902) rfl rfl) ?_;refine ga aE ?_;exact aH J2 (i+1) hin
 have hin:=a8 hi t34;subst hin;refine gW ((Wk.freeze (k:=902) rfl).trans<|Wk.of (sl:=[(2,some (.ptr 2 0)),(3,some (.ptr 3 0))]) (hp:=[(2,some (.box [nS,nS,nS])),(3,some (.box a.cs))]) aR (.k (.cons rfl (BlkSub.bL (.cons (.refl _) (.cons (Sub.of (by rw[bD (by simp)];simp)) (.cons (.refl _) .nil))) rfl) .nil))) ?_;refine ae ?_;rfl
theorem S9{a:Aq}{g:Gr}{s:Sv}(hb:∀b∈g.bo,0<=b/\b<a.bs.length)(hl:s.ps.length=g.bo.length)(l1:a.bs.length<=100)(l2:a.ms.length<=100)(l3:g.bo.length<=100):FP 192 [a.av,g.av,s.av] (a.nxt g s).av:=by
 refine af func192 ?_;refine gt (aJ (MH _ (Mq _) (by rw[length_map];omega)) (cG rfl) aM rfl rfl) ?_;refine gt (aJ (FY _ (Ge _) (by rw[length_map];omega)) (cG rfl) aM rfl rfl) ?_;refine gs (bO (.tmp rfl) rfl rfl (.tmp rfl) T39 rfl T3 rfl rfl (by simp only[length_map,length_cons,length_nil];omega) rfl rfl) ?_;refine gD ?_ (2,0);refine gW ((Wk.freeze (k:=21) rfl).trans<|Wk.of (sl:=[(3,some (.ptr 3 0)),(4,some (.ptr 4 0)),(5,some (.ptr 5 0)),(6,some (.ptr 6 0)),(7,some (.ptr 7 0))]) (hp:=[(3,some (.box a.cs)),(4,some (.box g.av.cells)),(5,some (.box s.av.cells)),(6,some (.box [nS,nS,nS])),(7,some (.box [.lst 1 (s.ts.map nA),.ms 900 4 0 a.bs.length,.lst 1 ((a.ms++[s.mode]).map i64)])),(900,some (.row 4 ((jx a.bs (g.bo.take 0) (s.ps.take 0)).map Pq.av)))]) aR (.k (.k (.k (.k (.cons rfl (BlkSub.bL (.cons (.refl _) (.cons (Sub.of (congrArg (AV.ms 900 4 0) (length_map _))) (.cons (Sub.of (by rw[bD (by simp)];simp)) .nil))) rfl) (.k .nil))))))) ?_
 refine gl ?_;refine aN [3,4,5,6,7,24,25] [3,4,5,6,7] (fun(i:Nat)=>[(26,some (i64 i))]) (fun i=>[(900,some (.row 4 ((jx a.bs (g.bo.take i) (s.ps.take i)).map Pq.av)))]) (fun i=>i<=g.bo.length) (fun i=>g.bo.length-i) 0 (zero_le _) ?_;rintro i hi K1 J1;refine gC (fun t27=>?_) (fun t27=>?_) (st2:=(7,0))
 ·have hin:=aT t27;obtain⟨b,hbi⟩:=az hin;obtain⟨p,hp⟩:=az (l:=s.ps) (i:=i) oz;obtain⟨hb0,hb1⟩:=hb b (mem_of_getElem? hbi);have hpl:=pI a.bs (g.bo.take i) (s.ps.take i);obtain⟨o,ho⟩:=az (l:=jx a.bs (g.bo.take i) (s.ps.take i)) (i:=b.toNat) oz;refine gi (ay hbi) ?_;refine gi (ay hp) ?_;refine gs (jv (.tmp rfl) (.tmp rfl) T38 rfl T69 rfl oz oz rfl) ?_;refine gs (cO (.tmp rfl) rfl (by rw[Nat.zero_add,getElem?_map,ho];rfl) rfl (.tmp rfl) rfl rfl T69 rfl rfl) ?_;refine gD ?_;refine ga aE ?_;exact aH J1 (i+1) hin (hw:=Wk.of aR (.cons rfl (BlkSub.of (by rw[CO hbi hp,map_set,Nat.zero_add];rfl)) (.k (.k (.k (.k (.k .nil)))))))
 have hin:=a8 hi t27;subst hin;refine gW ((Wk.freeze (k:=900) rfl).trans<|Wk.of (sl:=[(6,some (.ptr 6 0)),(7,some (.ptr 7 0))]) (hp:=[(6,some (.box [nS,nS,nS])),(7,some (.box (a.nxt g s).cs))]) aR (.k (.cons rfl (BlkSub.bL (.cons (.refl _) (.cons (Sub.of (by rw[bD (by rw[length_map,pI])];rw[take_length,take_of_length_le oz];rfl)) (.cons (.refl _) .nil))) rfl) .nil))) ?_;refine ae ?_;rfl
abbrev fc(l:Li)(xs:List Tn)(G:List Gr)(fo:FuncId)(caps:List AV)(sg:Bool)(o:AV):List AV:=l.av.cells++[.lst 4 (xs.map Tn.av),.lst 4 (G.map Gr.av),.cl fo [] caps,bl sg,o]
abbrev eQ(l:Li)(xs:List Tn)(G:List Gr)(fo:FuncId)(caps:List AV)(sg:Bool)(k:Nat)(es:List AV):Hp :=
  [(1000,some (.box (fc l xs G fo caps sg (.ms k 3 0 es.length)))),(k,some (.row 3 es))]
theorem xj{k k0:Nat}{x y:Option Blk}{z:Blk}(h0:1000<=k0)(h:lk [(1000,x),(k0,y)] k=some z):1000<=k:=by
 rw[aP]at h;split at h
 ·omega
 ·rw[aP]at h;split at h
  ·omega
  ·cases h
theorem O7{l:Li}{xs:List Tn}{G:List Gr}{fo:FuncId}{caps:List AV}{sg:Bool}{es:List AV}{g:Gr}(hd:g.kind=0->0<=g.driver/\g.driver<xs.length)(hl:xs.length<=100) :
  Con prog 191 [.ptr 1000 0,g.av] (eQ l xs G fo caps sg 1001 es) (bW g xs).av (eQ l xs G fo caps sg 1001 es):=by
 refine gF func191 (fun k z h=>xj oz h) ?_;refine gC (fun t7=>?_) (fun t7=>?_)
 ·have hk : g.kind ≠ 0 := by simpa [aa] using t7
  refine gR ?_;exact(aA.keep (ma rfl rfl)).sub (by unfold bW;rw[VP hk];exact Sub.agg (.cons (.refl _) (.cons (Sub.nil _ _ _) (.cons (Sub.nil _ _ _) (.cons (.refl _) .nil)))) rfl)
 have hk:g.kind=0:=by simpa[aa]using t7
 obtain⟨h0,h1⟩:=hd hk;obtain⟨x,hx⟩:=az (l:=xs) (i:=g.driver.toNat) oz;refine gi (dg (n:=g.driver.toNat) oz hx) ?_;refine gD ?_;refine gR ?_;exact(aA.keep (ma rfl rfl)).sub (by unfold bW;rw[VQ hk,aO hx];exact .refl _)
theorem Ox:jL (.agg [nS,nS,nS,nS]) oA.av:=by
 refine⟨rfl,?_⟩;intro j x y hx hy
 match j,hx,hy with
 |0,hx,hy=>cases hx;cases hy;exact⟨rfl,.nil _ _ _⟩
 |1,hx,hy=>cases hx;cases hy;exact⟨rfl,.nil _ _ _⟩
 |2,hx,hy=>cases hx;cases hy;exact⟨rfl,.nil _ _ _⟩
 |3,hx,hy=>cases hx;cases hy;exact⟨rfl,.nil _ _ _⟩
theorem H9(n:Nat):BlkSub (.row 4 (List.replicate n (.agg [nS,nS,nS,nS]))) (.row 4 ((List.replicate n oA).map Pq.av)):=by
 refine .row (by simp) ?_;intro i e e' he he';rw[map_replicate,getElem?_replicate]at he';rw[getElem?_replicate]at he;split at he
 ·rename_i h;rw[VQ h]at he';cases he;cases he'
  exact Ox
 ·cases he
theorem Rq:Az.av=.agg [nA (sh 0 (((1:Int):Rat):Rat)),nA [],nA [],nA []]:=by
 have h:sh 0 (((1:Int):Rat):Rat)=[1]:=by decide +kernel
 rw[h];rfl
theorem VF{l:Li}{xs:List Tn}{G:List Gr}{fo:FuncId}{caps:List AV}{sg:Bool}{es:List AV}(h0:0<l.bo.length)(hl:l.bo.length<=100) :
  Con prog 101 [.ptr 1000 0] (eQ l xs G fo caps sg 1001 es) (eS l).av (eQ l xs G fo caps sg 1001 es):=by
 refine gF func101 (fun k z h=>xj oz h) ?_;refine gl ?_;refine gs (fD (.tmp rfl) T38 rfl T69 rfl rfl oz (by dsimp only;omega) rfl) ?_ (2,0);refine gW (Wk.of (sl:=[(2,some (.ptr 2 0)),(3,some (.ptr 3 0))]) (hp:=[(2,some (.box [nS,nS,nS])),(3,some (.box [nS,.ms 10 4 0 l.bo.length,nS])),(10,some (.row 4 ((List.replicate l.bo.length oA).map Pq.av))),(1000,some (.box (fc l xs G fo caps sg (.ms 1001 3 0 es.length)))),(1001,some (.row 3 es))]) aR (.k (.k (.cons rfl (H9 _) (.k (.k .nil)))))) ?_;refine gc (m8 1 oz) ?_;refine gc (oM (q:=((1:Int):Rat)) (Qb.one.qs oz)) ?_;refine gs (bP (n:=0) (.tmp rfl) (.const _) T38 rfl T69 rfl oz oz rfl) ?_ (2,7);refine gs (Cn (e:=oA.av) (e':=.agg [nA (sh 0 (((1:Int):Rat):Rat)),nA [],nA [],nA []]) (.tmp rfl) rfl (by rw[getElem?_map,getElem?_replicate,VQ h0];rfl) (.tmp rfl) rfl rfl T67 rfl rfl rfl) ?_;refine gD ?_ (3,0);refine gW ((Wk.freeze (k:=10) rfl).trans<|Wk.of (sl:=[(2,some (.ptr 2 0)),(3,some (.ptr 3 0))]) (hp:=[(2,some (.box [nS,nS,nS])),(3,some (.box [nS,.lst 4 ((eS l).bs.map Pq.av),nS])),(1000,some (.box (fc l xs G fo caps sg (.ms 1001 3 0 es.length)))),(1001,some (.row 3 es))]) aR (.k (.cons rfl (BlkSub.bL (.cons (.refl _) (.cons (Sub.of (by rw[bD (by simp)];unfold eS;rw[map_set,Rq])) (.cons (.refl _) .nil))) rfl) (.k (.k .nil))))) ?_
 refine gR ?_;exact(aA.keep (ma rfl rfl)).sub (Sub.agg (.cons (Sub.nil _ _ _) (.cons (.refl _) (.cons (Sub.nil _ _ _) .nil))) rfl)
theorem M2(k m:Int):FP 189 [i64 k,i64 m] (bl true):=by
 refine af func189 ?_;refine ae ?_;rfl
theorem U4{modes:List Int}{k:Nat}(hk:k<modes.length)(hl:modes.length<=100)(m:Int):FP 111 [i64 k,i64 m,.iptr [.lst 1 (modes.map i64)]] (bl (decide (m=modes.getD k 0))):=by
 obtain⟨x,hx⟩:=az hk;refine af func111 ?_;refine gi (ay hx) ?_;refine gR ?_;exact bw (Sub.of (by rw[aO hx,lR];rfl))
def rY(l:Li)(xs:List Tn):Nat:=if cA l≠0 then cA l else if xs.length≠l.dv.length then 10 else dh (xs.map Tn.err)
def cP(l:Li)(xs:List Tn):Nat:=if aG l≠0 then aG l else rY l xs
def tP(e:Nat)(l:Li)(xs:List Tn):Hp:=if e=0 then[(900,some (.box (fc l xs (aK l) 189 [] false (nS))))]else[]
theorem wJ{e:Nat}(h:e≠0){l:Li}{xs:List Tn}:tP e l xs=[]:=VP h
theorem F0{l:Li}{xs:List Tn}{e:Nat}(he:(if aG l=0 then cA l else aG l)=e)(h:e≠0):cP l xs=e:=by
 unfold cP rY
 by_cases h1:aG l=0
 ·rw[VQ h1]at he;rw[VP oz,VQ oz,he]
 ·rw[VP h1]at he;rw[VQ h1,he]
theorem vY{l:Li}{xs:List Tn}(h:aG l=0)(hs:cA l=0):cP l xs=if xs.length≠l.dv.length then 10 else dh (xs.map Tn.err):=by
 unfold cP rY;rw[VP oz,VP oz]
theorem Jd(l:Li)(hl:l.ok)(xs:List Tn)(hx:∀x∈xs,x.t.ok)(hn:xs.length<=100) :
  Con prog 99 [l.av,.lst 4 (xs.map Tn.av)] [] (.tup [p9 (cP l xs),bm (cP l xs)]) (tP (cP l xs) l xs):=by
 have hld:=hl.ld;refine gF func99 (fun k z h=>by cases h) ?_;refine gc (IF l hl) ?_;refine gC (fun t17=>?_) (fun t17=>?_)
 ·have h1:=de t17;refine gR ?_;rw[F0 rfl h1,lr h1,wJ h1];exact lI rfl
 have h1:=cR t17;obtain⟨hli,hsp⟩:=Gh h1;rw[show(if aG l=0 then aK l else[])=aK l from VQ hli];refine gl ?_;refine gl ?_;refine gC (fun t24=>?_) (fun t24=>?_)
 ·have h2:=qr t24;have he:cP l xs = 10:=by rw [vY hli hsp,VQ h2]
  refine gR ?_;rw[he,lr (by decide),wJ (by decide)];exact lI rfl
 have h2:=qQ t24;have he0:cP l xs=dh (xs.map Tn.err):=by rw[vY hli hsp,VP oz]
 refine gl ?_;refine aN [1,2,6,26,27] [2] (fun(i:Nat)=>[(28,some (i64 i))]) (fun _=>[]) (fun i=>i<=xs.length/\∀y∈xs.take i,y.err=0) (fun i=>xs.length-i) 0 ⟨zero_le _,fun y hy=>by simp at hy⟩ ?_;rintro i ⟨hi,hz⟩ K1 J1;refine gC (fun t29=>?_) (fun t29=>?_) (st2:=(13,0))
 ·have hin:=aT t29;obtain⟨x,hxi⟩:=az hin;refine gi (ay hxi) ?_;refine gc (AP x (hx x (mem_of_getElem? hxi))) ?_;refine gC (fun t35=>?_) (fun t35=>?_)
  ·have h3:=de t35;have he:cP l xs = x.err:=by rw [he0]; exact Bi hxi hz h3
   refine gR ?_;rw[he,lr h3,wJ h3];exact lI rfl
  have h3:=cR t35;refine ga aE ?_;exact aH J1 (i+1) ⟨hin,fun z hz2=>by rw[cD hxi]at hz2;rcases List.mem_append.1 hz2 with h9 |h9;exact hz z h9;(rw[List.mem_singleton.1 h9];exact h3)⟩
 have hin:=a8 hi t29;have he:cP l xs=0:=by rw[he0];exact lQ (fun y hy=>hz y (by rw[hin,take_length];exact hy))
 refine gW (Wk.o (sl:=[(1,some (.lst 4 (xs.map Tn.av))),(2,some (.ptr 2 0)),(6,some (.lst 4 ((aK l).map Gr.av)))]) (hp:=[(2,some (.box l.av.cells))])) ?_ (77777,0);refine gW (Wk.of (sl:=[(4,some (.ptr 42 0)),(5,some (.v .nilIface))]) (hp:=[(42,some (.box (fc l xs (aK l) 189 [] false (nS))))]) aR (.cons rfl (BlkSub.bL (.cons (.refl _) (.cons (.refl _) (.cons (.refl _) (.cons (.refl _) (.cons (.refl _) (.cons (.refl _) (.cons ((Sub.fn0 _).trans (uq rfl)) (.cons (.refl _) (.cons (.refl _) .nil))))))))) rfl) .nil)) ?_ (77777,0);refine gW (Wk.rk (k:=42) (d:=900) rfl rfl) ?_;refine gR ?_;rw[he];exact aA.keep (bi rfl)
section
variable{P:Program}{N:Nat}{R:Array Oper}{s:AS}{pos:String}{after:Array Edge}
theorem BT{d f k k2:Nat}{bx bx2:Blk}{args:Array Operand}{ts:Array TypeId}{xs:List AV}{r:AV}{t:TypeId}
  (hcon:Con P f xs [(k,some bx),(k2,some bx2)] r [(k,some bx),(k2,some bx2)]) (ha:EvL s args.toList xs) (hne:Nat.beq k2 k=false) (hk:s.blk k=some bx) (hk2:s.blk k2=some bx2)
  (hok:iF s [(k,some bx),(k2,some bx2)] [(k,some bx),(k2,some bx2)] r=true) (hN:Nat.blt d N=true) :
  Step P N R s ⟨some d,.call ⟨.value (.func f),args,ts⟩,t,pos,after,none⟩ ⟨some r,[],d7 args.toList,[k,k2]⟩:=by
 have hne':k2≠k:=fun e=>by rw[e,Nat.beq_refl]at hne;cases hne
 refine Step.weaken (aJ (d:=d) hcon ha (fun k' z h=>by
  rcases mG h with⟨rfl,h9⟩ |⟨_,rfl,h9⟩
  ·cases h9;exact hk
  ·cases h9;exact hk2) hok hN) (fun s' h=>h) (fun s' h k' hk'=>?_) (fun s' h=>?_)
 ·left;simp only[map_append,cW,map_cons,map_nil,mem_append,mem_cons,not_mem_nil,or_false]at hk' ⊢;rcases hk' with h9 |h9 <;> exact h9
 ·intro C m a w hr;refine ⟨m,hr.weak (fun t x hx=>⟨x,hx,.refl _⟩) (fun k' x hx=>⟨x,?_,.refl _⟩)⟩;have hb:lk s'.hp k = some bx:=(h.2 k (by simp)).trans hk;have hb2:lk s'.hp k2 = some bx2:=(h.2 k2 (by simp)).trans hk2;show lk ([(k,some bx),(k2,some bx2)] ++ cW [(k,some bx),(k2,some bx2)] ++ s'.hp) k' = some x;have hx':lk s'.hp k' = some x:=hx;simp only [cW,map_cons,map_nil,List.cons_append,nil_append,aP]
  by_cases e:k'=k
  ·rw[VQ e];rw[e,hb]at hx';exact hx'
  ·rw[VP e]
   by_cases e2:k'=k2
   ·rw[VQ e2];rw[e2,hb2]at hx';exact hx'
   ·rw[VP e2,VP e,VP e2];exact hx'
end
def qu(k:Nat):Nat:=bif Nat.beq k 1001 then 901 else bif Nat.beq k 901 then 1001 else k
theorem Um(k:Nat):qu (qu k)=k:=by
 by_cases h1:k=1001
 ·subst h1;rfl
 ·by_cases h2:k=901
  ·subst h2;rfl
  ·have nb:∀{a b:Nat},a≠b->Nat.beq a b=false:=fun h=>by
    cases h9:Nat.beq _ _ with
    |false=>rfl
    |true=>exact absurd (eq_of_beq_eq_true h9) h
   have e:qu k=k:=by simp only[qu,nb h1,nb h2,cond_false]
   rw[e,e]
theorem SV{l:Li}{xs:List Tn}{G:List Gr}{fo:FuncId}{caps:List AV}{sg:Bool}{es es':List AV}{a:Aq}{e:Nat}
  (h:Con prog 100 [.ptr 1000 0,a.av] (eQ l xs G fo caps sg 1001 es) (bm e) (eQ l xs G fo caps sg 900 es')) :
  Con prog 100 [.ptr 1000 0,a.av] (eQ l xs G fo caps sg 901 es) (bm e) (eQ l xs G fo caps sg 900 es') :=
 Con.pm Um h
theorem RT{l:Li}{xs:List Tn}{G:List Gr}{fo:FuncId}{caps:List AV}{sg:Bool}{o:List Aq}{a:Aq}(hk:a.ms.length=G.length)(hG:G.length<=100)(ho:o.length<=1000)
  (hcl:FP 190 [a.av] a.av) :
  Con prog 100 [.ptr 1000 0,a.av] (eQ l xs G fo caps sg 1001 (o.map Aq.av)) (bm 0) (eQ l xs G fo caps sg 900 ((o++[a]).map Aq.av)):=by
 refine gF func100 (fun k z h=>xj oz h) ?_;refine gl ?_;refine gl ?_;refine gC (fun t21=>?_) (fun t21=>?_) (st2:=(77777,0))
 ·refine gc hcl ?_;refine gs (bO (.tmp rfl) rfl (by rw [length_map]) (.tmp rfl) T87 rfl T41 rfl rfl (by simp only [length_map,length_cons,length_nil]; omega) rfl rfl) ?_;refine gD ?_ (4,0);refine gW (Wk.of (sl:=[(4,some (.v .nilIface))]) (hp:=[(1000,some (.box (fc l xs G fo caps sg (.ms 30 3 0 ((o ++ [a]).map Aq.av).length)))),(30,some (.row 3 ((o ++ [a]).map Aq.av)))]) aR (.cons rfl (BlkSub.bL (.cons (.refl _) (.cons (.refl _) (.cons (.refl _) (.cons (.refl _) (.cons (.refl _) (.cons (.refl _) (.cons (.refl _) (.cons (.refl _) (.cons (Sub.of (by simp)) .nil))))))))) rfl) (.cons rfl (BlkSub.of (by rw [map_append]; rfl)) .nil))) ?_ (4,0)
  refine gW (Wk.rk (k:=30) (d:=900) rfl rfl) ?_;refine gR ?_;exact aA.keep (ma rfl rfl)
 exact absurd t21 (by rw[hk];simp[aa])
theorem mM(F:Int->Bool)(sg:Bool)(f:Sv->List Aq×Nat)(s:Sv)(r:List Sv) :
  dV F sg f (s::r)=if F s.mode=false then dV F sg f r else if(f s).2≠0 then f s else if sg=true then f s else((f s).1++(dV F sg f r).1,(dV F sg f r).2):=rfl
theorem mt{α:Type}{l:List α}{i:Nat}{x:α}(h:l[i]?=some x):l.drop i=x::l.drop (i+1):=by
 obtain⟨hi,e⟩:=List.getElem?_eq_some_iff.1 h;rw[List.drop_eq_getElem_cons hi,e]
def rq(F:Int->Bool)(sg:Bool)(f:Sv->List Aq×Nat)(S:List Sv)(i:Nat)(c:List Aq):Prop :=
  i<=S.length/\dV F sg f S=(c++(dV F sg f (S.drop i)).1,(dV F sg f (S.drop i)).2)
theorem LK(F:Int->Bool)(sg:Bool)(f:Sv->List Aq×Nat)(S:List Sv):rq F sg f S 0 []:=⟨zero_le _,rfl⟩
section
variable{F:Int->Bool}{sg:Bool}{f:Sv->List Aq×Nat}{S:List Sv}{i:Nat}{c:List Aq}(h:rq F sg f S i c){s:Sv}(hs:S[i]?=some s)
include h hs
theorem PB(hF:F s.mode=false):rq F sg f S (i+1) c:=by
 have h2:=h.2;rw[mt hs,mM,VQ hF]at h2;exact⟨(List.getElem?_eq_some_iff.1 hs).1,h2⟩
theorem Tc(hF:F s.mode=true)(he:(f s).2≠0):dV F sg f S=(c++(f s).1,(f s).2):=by
 have h2:=h.2;rw[mt hs,mM,VP (by rw[hF];simp),VQ he]at h2;exact h2
theorem KG(hF:F s.mode=true)(he:(f s).2=0)(h1:sg=true):dV F sg f S=(c++(f s).1,0):=by
 have h2:=h.2;rw[mt hs,mM,VP (by rw[hF];simp),VP oz,VQ h1,he]at h2;exact h2
theorem Vy(hF:F s.mode=true)(he:(f s).2=0)(h1:sg=false):rq F sg f S (i+1) (c++(f s).1):=by
 have h2:=h.2;rw[mt hs,mM,VP (by rw[hF];simp),VP oz,VP (by rw[h1];simp)]at h2;exact⟨(List.getElem?_eq_some_iff.1 hs).1,by rw[h2,append_assoc]⟩
end
theorem TN{F:Int->Bool}{sg:Bool}{f:Sv->List Aq×Nat}{S:List Sv}{c:List Aq}(h:rq F sg f S S.length c):dV F sg f S=(c,0):=by
 have h2:=h.2;rw[drop_length]at h2;rw[h2];simp[dV]
theorem QK{l:Li}{xs:List Tn}{G:List Gr}{fo:FuncId}{caps:List AV}{sg:Bool}{o:List Aq}{a:Aq}{g:Gr}(hg:G[a.ms.length]?=some g)(hG:G.length<=100)(hx:xs.length<=100)(hd:g.kind=0->0<=g.driver/\g.driver<xs.length)
  {S:List Sv} {E:Nat} (hS:FP 17 [l.av,i64 a.ms.length,(bW g xs).av,a.av] (.tup [.lst 3 (S.map Sv.av),bm E])) (hSl:S.length<=100)
  {F:Int->Bool} (hF:∀m,FP fo ([i64 a.ms.length,i64 m]++caps) (bl (F m)))
  (hb:∀s∈S,FP 192 [a.av,g.av,s.av] (a.nxt g s).av)
  {f:Sv->List Aq×Nat} {M B:Nat} (hM:∀s∈S,(f s).1.length<=M) (hB:o.length+S.length*M<=B) (ih:∀(o:List Aq),o.length+M<=B->∀s∈S,Con prog 100 [.ptr 1000 0,(a.nxt g s).av] (eQ l xs G fo caps sg 1001 (o.map Aq.av)) (bm (f s).2) (eQ l xs G fo caps sg 900 ((o++(f s).1).map Aq.av))) :
  Con prog 100 [.ptr 1000 0,a.av] (eQ l xs G fo caps sg 1001 (o.map Aq.av)) (bm (if E≠0 then E else(dV F sg f S).2)) (eQ l xs G fo caps sg 900 ((o++(if E≠0 then[]else(dV F sg f S).1)).map Aq.av)):=by
 have hkG:=(List.getElem?_eq_some_iff.1 hg).1;refine gF func100 (fun k z h=>xj oz h) ?_;refine gl ?_;refine gl ?_;refine gC (fun t21=>?_) (fun t21=>?_) (st1:=(3,0));exact absurd t21 (by simp[aa];omega);refine gi (ay hg) ?_;refine gt (BT (O7 hd hx) (bA rfl rfl) rfl rfl rfl rfl rfl) ?_;refine gc hS ?_;refine gD ?_;refine gC (fun t54=>?_) (fun t54=>?_) (st1:=(8,0)) (st2:=(77777,0))
 ·have hE:=de t54;refine gW (Wk.o (sl:=[(4,some (.v .nilIface)),(8,some (bm E))]) (hp:=[(1000,some (.box (fc l xs G fo caps sg (.ms 1001 3 0 (o.map Aq.av).length)))),(1001,some (.row 3 (o.map Aq.av)))])) ?_ (8,0);refine gW (Wk.rk (k:=1001) (d:=900) rfl rfl) ?_;refine gR ?_;rw[VQ hE,VQ hE,append_nil];exact aA.keep (ma rfl rfl)
 have hE:=cR t54;refine gW (Wk.of (sl:=[(0,some (.ptr 1000 0)),(3,some (.ptr 3 0)),(5,some (i64 a.ms.length)),(6,some (.ptr 6 0)),(7,some (.lst 3 (S.map Sv.av)))]) (hp:=[(3,some (.box a.cs)),(6,some (.box g.av.cells)),(1000,some (.box (fc l xs G fo caps sg (.ms 1001 3 0 ((o++[]).map Aq.av).length)))),(1001,some (.row 3 ((o++[]).map Aq.av)))]) aR (.k (.k (.cons rfl (BlkSub.bL (.cons (.refl _) (.cons (.refl _) (.cons (.refl _) (.cons (.refl _) (.cons (.refl _) (.cons (.refl _) (.cons (.refl _) (.cons (.refl _) (.cons (Sub.of (by simp)) .nil))))))))) rfl) (.cons rfl (BlkSub.of (by rw[append_nil])) .nil))))) ?_ (77777,0)
 refine gW (Wk.rk (k:=1001) (d:=901) rfl rfl) ?_;refine gl ?_;refine fZ [0,3,5,6,56,57] [3,6] (fun(i:Nat)(c:List Aq)=>[(58,some (i64 i))]) (fun _ c=>[(1000,some (.box (fc l xs G fo caps sg (.ms 901 3 0 ((o++c).map Aq.av).length)))),(901,some (.row 3 ((o++c).map Aq.av)))]) (fun i c=>rq F sg f S i c/\c.length<=i*M) (fun i _=>S.length-i) 0 ([]) ⟨LK F sg f S,zero_le _⟩ ?_;rintro i c ⟨hfo,hcl⟩ K1 J1;refine gC (fun t59=>?_) (fun t59=>?_) (st2:=(19,0))
 ·have hin:=aT t59;obtain⟨s,hs⟩:=az hin;have hsm:=mem_of_getElem? hs;have hfl:=hM s hsm;have hmul:(i+1)*M=i*M+M:=Nat.succ_mul i M;have hmul2:(i+1)*M<=S.length*M:=mul_le_mul_right M hin;refine gi (ay hs) ?_;refine gc (hF s.mode) ?_;refine gD ?_;refine gC (fun t70=>?_) (fun t70=>?_) (st2:=(77777,0))
  ·have hFm : F s.mode = false := by simpa using t70
   refine ga aE ?_;exact fB J1 (i+1) c ⟨PB hfo hs hFm,by omega⟩
  have hFm:F s.mode=true:=by simpa using t70
  refine gW (Wk.o (sl:=[(0,some (.ptr 1000 0)),(3,some (.ptr 3 0)),(5,some (i64 a.ms.length)),(6,some (.ptr 6 0)),(10,some (.ptr 10 0)),(56,some (.lst 3 (S.map Sv.av))),(57,some (i64 S.length)),(58,some (i64 i))]) (hp:=[(3,some (.box a.cs)),(6,some (.box g.av.cells)),(10,some (.box s.av.cells)),(1000,some (.box (fc l xs G fo caps sg (.ms 901 3 0 ((o++c).map Aq.av).length)))),(901,some (.row 3 ((o++c).map Aq.av)))])) ?_
  refine gc (hb s hsm) ?_;refine gt (aJ (SV (ih (o++c) (by rw[length_append];omega) s hsm)) (bA rfl rfl) aM rfl rfl) ?_;refine gC (fun t78=>?_) (fun t78=>?_)
  ·have he:(f s).2≠0:=de t78;have hR:=Tc hfo hs hFm he;refine gR ?_;rw[VP oz,VP oz,hR,<- append_assoc];exact aA.keep (ma rfl rfl)
  have he:(f s).2=0:=cR t78;refine gC (fun t83=>?_) (fun t83=>?_) (st2:=(77777,0))
  ·have h1 : sg = true := by simpa using t83
   have hR:=KG hfo hs hFm he h1;refine gR ?_;rw[VP oz,VP oz,hR,<- append_assoc];exact aA.keep (ma rfl rfl)
  have h1:sg=false:=by simpa using t83
  refine gW (Wk.of (sl:=[(0,some (.ptr 1000 0)),(3,some (.ptr 3 0)),(5,some (i64 a.ms.length)),(6,some (.ptr 6 0)),(56,some (.lst 3 (S.map Sv.av))),(57,some (i64 S.length)),(58,some (i64 i))]) (hp:=[(3,some (.box a.cs)),(6,some (.box g.av.cells)),(1000,some (.box (fc l xs G fo caps sg (.ms 900 3 0 ((o++(c++(f s).1)).map Aq.av).length)))),(900,some (.row 3 ((o++(c++(f s).1)).map Aq.av)))]) aR (.k (.k (.cons rfl (BlkSub.bL (.cons (.refl _) (.cons (.refl _) (.cons (.refl _) (.cons (.refl _) (.cons (.refl _) (.cons (.refl _) (.cons (.refl _) (.cons (.refl _) (.cons (Sub.of (by rw[append_assoc])) .nil))))))))) rfl) (.cons rfl (BlkSub.of (by rw[append_assoc])) .nil))))) ?_ (77777,0)
  refine gW (Wk.rk (k:=900) (d:=901) rfl rfl) ?_;refine ga aE ?_;exact fB J1 (i+1) (c++(f s).1) ⟨Vy hfo hs hFm he h1,by rw[length_append];omega⟩
 have hin:=a8 hfo.1 t59;subst hin;have hR:=TN hfo;refine gW (Wk.o (sl:=[]) (hp:=[(1000,some (.box (fc l xs G fo caps sg (.ms 901 3 0 ((o++c).map Aq.av).length)))),(901,some (.row 3 ((o++c).map Aq.av)))])) ?_ (19,0);refine gW (Wk.rk (k:=901) (d:=900) rfl rfl) ?_;refine gR ?_;rw[VP oz,VP oz,hR];exact aA.keep (ma rfl rfl)
variable{P:Program}{N:Nat}{R:Array Oper}{s:AS}{pos:String}{after:Array Edge}
theorem Qc{d n:Nat}{os:List Operand}{es:List AV}{T E t:TypeId}{ti te:TI}{parts:Array (Nat×Operand)}
  (hp:parts=(jB 0 os).toArray) (hx:EvL s os es) (hT:aB P T=some ti) (hk:ti.k=.slice E) (hE:aB P E=some te) (hz:te.zero.all Value.oneCell'=true)
  (hz0:Nat.beq te.zero.length te.size=true) (hes:(es.all fun e=>Nat.beq e.cells.length te.size&&e.ok)=true) (hnm:AV.nms es=[])
  (hn:n=es.length) (hb:Nat.ble (n*te.size) 16777216=true) (hb':Nat.ble n 16777216=true) (hN:Nat.blt d N=true) :
  Step P N R s ⟨some d,.buildSlice T n parts,t,pos,after,none⟩ ⟨some (.ms d te.size 0 n),[(d,some (.row te.size es))],d7 os,[]⟩ :=
 pK rfl rfl hN (by simp) fun s' hag hfr C m a w hr => by
  subst hp;rw[Nat.ble_eq]at hb hb';have hx':=hx.agree hag (fun _ h=>h);obtain⟨c,h1,h2⟩:=xY (w:=w) hT hk hE hz hz0 (fun o x h=>h.rep hr) hx' hes hn oz;refine⟨.slice (some ⟨w.heap.size,0,none⟩) n n,c,E,w.drawn,?_,fun h=>h,?_,?_⟩
  ·have : ((jB 0 os).toArray.map fun p => (p.1, a.eval p.2)) = ((jB 0 os).map fun p => (p.1, a.eval p.2)).toArray := by simp
   simp only[execOp,Sem.run_bind,this,h1,Result.andThen_ok,Sem.run_pure]
  ·intro g S m' w' hg hS hm hw;subst hn
   have hnm':∀x∈eW es,x.nm=[]:=by
    have hh:=ww hnm;clear h2 h1 hx' hx hes hb hb' hnm hag
    induction es with
    |nil=>intro x hx;cases hx
    |cons e es ih =>
     intro x hx;simp only[eW,mem_append]at hx;rcases hx with hx |hx
     ·have := hh e (by simp)
      cases e <;> simp only[AV.cells,List.mem_singleton]at hx <;> first
       |(subst hx;exact this)
       |(exact ww this x hx)
     ·exact ih (fun e he=>hh e (by simp[he])) x hx
   have h3:da g S cS c.toList (eW es):=h2.mono hg hS (fun x hx k b hk _=>by have:=hk.mem;rw[hnm' x hx]at this;cases this);have hs:=AZ hes;have hlen:=v6 es hs;have hsz:c.size=es.length*te.size:=by have:=h3.1;simp at this;omega
   have hcell:∀(i j:Nat)(e x:AV),es[i]?=some e->e.cells[j]?=some x->∃u,c[i*te.size+j]?=some u/\x.one=true/\Rep g S cS u x:=by
    intro i j e x he hx;have hf:=zj es hs i j e x he hx
    have hlt:i*te.size+j<(eW es).length:=by
     rcases lt_or_ge (i*te.size+j) (eW es).length with h |h
     ·exact h
     ·rw[getElem?_eq_none h]at hf;cases hf
    have hlt':i*te.size+j<c.size:=by omega
    refine⟨c[i*te.size+j],Array.getElem?_eq_getElem hlt',h3.2.1 _ x hf,h3.2.2 _ _ x (by simp[hlt']) hf⟩
   refine .row hw oz (by unfold aY;omega) (fun i e he=>hs e (mem_of_getElem? he)) ?_ ?_
   ·intro i j e x he hx;obtain⟨u,_,h,_⟩:=hcell i j e x he hx;exact h
   ·intro i j e u x he hx hu;obtain⟨u',h,_,h2⟩:=hcell i j e x he hx;rw[hu]at h;cases h
    exact h2
  ·intro g S m' hm hS
   have:=Rep.ms (g:=g) (S:=S) (m:=m') (k:=d) (sz:=te.size) (off:=0) (len:=n) (cap:=n) hm (le_refl _) (by
    have hl:=v6 es (AZ hes);have h9:=h2.1;have e:c.size=n*te.size:=by simp at h9;rw[hn];omega
    rw[Nat.zero_add,<- e];exact hS)
   simpa using this
end Go.Lw
namespace Go.Lw
open Go.Proofs
theorem qI(i:Int)(n:Nat):FP 187 [i64 i,i64 n] (bl (br i n)):=by
 refine af func187 ?_;refine ae ?_;exact congrArg bl (Eu i n)
theorem Nt(p q:Mk)(hp:p.ok)(hq:q.ok):FP 188 [p.av,q.av] (bl (decide (p.x.q=q.x.q/\p.y.q=q.y.q))):=by
 refine af func188 ?_;refine gc (Cp p.x q.x hp.x hq.x ((hp.qx.sub hq.qx).qs oz)) ?_;refine bM (fun _=>(Cp p.y q.y hp.y hq.y ((hp.qy.sub hq.qy).qs oz))) ?_;refine ae ?_;exact congrArg bl Vb
theorem KA(b:Bd)(hbo:b.ok):FP 186 [b.av] (i64 (if 8<b.pts.length then 4 else eU b.pts.length (dZ b.pts):Nat)):=by
 have hll:=hbo.ll;refine af func186 ?_;refine gl ?_;refine gC (fun t9=>?_) (fun t9=>?_)
 ·have h0:8<b.pts.length:=jb t9;refine ae ?_;rw[VQ h0];rfl
 have h0:b.pts.length<=8:=gp t9;have e0:(if 8<b.pts.length then 4 else eU b.pts.length (dZ b.pts):Nat)=eU b.pts.length (dZ b.pts):=VP oz;refine aN [1] [1] (fun(p:Nat)=>[(3,some (i64 p))]) (fun _=>[]) (fun p=>p<=b.pts.length/\∀j,j<p->dZ b.pts j=0) (fun p=>b.pts.length-p) 0 ⟨zero_le _,fun j h=>by omega⟩ ?_;rintro p ⟨hp,hpj⟩ K1 J1;refine gl ?_;refine gC (fun t14=>?_) (fun t14=>?_)
 ·have hpn:=aT t14;obtain⟨m,hm⟩:=az hpn;have hmd:b.pts.getD p default=m:=aO hm;have hmm:=mem_of_getElem? hm;have hmdup:=mZ Mk.name hm;have hmo:=hbo.pts m hmm;refine gi (ay hm) ?_;refine gc (tG m.name (hbo.names m hmm)) ?_;refine gC (fun t25=>?_) (fun t25=>?_)
  ·have h4:=di t25;have e2:dZ b.pts p = 5:=by unfold dZ; rw [hmd,VQ h4]
   refine ae ?_;rw[e0,dX hpn hpj (by rw[e2];decide),e2];rfl
  have h4:=dr t25;refine aN [1,3,4] [1,4] (fun(q:Nat)=>[(5,some (i64 q))]) (fun _=>[]) (fun q=>q<=p/\(b.pts.take q).any (fun y=>dG y.name m.name)=false) (fun q=>p-q) 0 ⟨zero_le _,rfl⟩ ?_;rintro q ⟨hq,hqd⟩ K2 J2;refine gC (fun t28=>?_) (fun t28=>?_)
  ·have hqn:=aT t28;obtain⟨y,hy⟩:∃y,b.pts[q]?=some y:=az oz;refine gi (ay hy) ?_;refine gD ?_;refine gC (fun t39=>?_) (fun t39=>?_)
   ·have h5:dG y.name m.name = true:=t39;have e2:dZ b.pts p = 6:=by unfold dZ; rw [hmd,VP (by rw [h4]; decide),VQ (by rw [hmdup]; exact k8 hy hqn h5)]
    refine ae ?_;rw[e0,dX hpn hpj (by rw[e2];decide),e2];rfl
   have h5:dG y.name m.name=false:=t39;refine ga aE ?_;exact aH J2 (q+1) ⟨hqn,kl hy hqd h5⟩
  have hqn:=a8 hq t28;subst hqn;have hmnd:¬f7 (b.pts.map Mk.name) q=true:=by rw[hmdup,hqd];decide
  refine gc (uu m.x hmo.x) ?_;refine bM (fun _=>(uu m.y hmo.y)) ?_;refine gC (fun t49=>?_) (fun t49=>?_)
  ·have h6:=o9 t49;have e2:dZ b.pts q = 3:=by unfold dZ; rw [hmd,VP (by rw [h4]; decide),VP hmnd,VP (by rintro ⟨g1,g2⟩; rcases h6 with g | g; (rw [g1] at g; cases g); (rw [g2] at g; cases g))]
   refine ae ?_;rw[e0,dX hpn hpj (by rw[e2];decide),e2];rfl
  have h6:=oF t49;have e2:dZ b.pts q=0:=by unfold dZ;rw[hmd,VP (by rw[h4];decide),VP hmnd,VQ h6]
  refine ga aE ?_;exact aH J1 (q+1) ⟨hpn,fun j h9=>by rcases lt_or_ge j q with g |g;exact hpj j g;(have:j=q:=by omega);subst this;exact e2⟩
 have hpn:=a8 hp t14;subst hpn;refine ae ?_;rw[e0,mT hpj];rfl
theorem Lh(l:Li)(hl:l.ok):FP 96 [l.av] (i64 (ig l)):=by
 have hlb:=hl.lb;have e0:ig l=eU l.bo.length (d6 l.bo):=rfl;refine af func96 ?_;refine aN [1] [1] (fun(i:Nat)=>[(3,some (i64 i))]) (fun _=>[]) (fun i=>i<=l.bo.length/\∀j,j<i->d6 l.bo j=0) (fun i=>l.bo.length-i) 0 ⟨zero_le _,fun j h=>by omega⟩ ?_;rintro i ⟨hi,hj⟩ K1 J1;refine gl ?_;refine gC (fun t10=>?_) (fun t10=>?_)
 ·have hin:=aT t10;obtain⟨b,hb⟩:=az hin;have hbd:l.bo.getD i default=b:=aO hb;have hbo:=hl.bo b (mem_of_getElem? hb);have hbdup:=mZ Bd.name hb;refine gi (ay hb) ?_;refine gc (tG b.name hbo.name) ?_;refine gC (fun t20=>?_) (fun t20=>?_)
  ·have h1:=di t20;have e1:d6 l.bo i = 5:=by unfold d6; rw [hbd,VQ h1]
   refine ae ?_;rw[e0,dX hin hj (by rw[e1];decide),e1];rfl
  have h1:=dr t20;refine aN [1,3] [1] (fun(k:Nat)=>[(4,some (i64 k))]) (fun _=>[]) (fun k=>k<=i/\(l.bo.take k).any (fun y=>dG y.name b.name)=false) (fun k=>i-k) 0 ⟨zero_le _,rfl⟩ ?_;rintro k ⟨hk,hd⟩ K2 J2;refine gC (fun t23=>?_) (fun t23=>?_)
  ·have hkn:=aT t23;obtain⟨y,hy⟩:∃y,l.bo[k]?=some y:=az oz;refine gi (ay hy) ?_;refine gi (ay hb) ?_;refine gD ?_;refine gC (fun t38=>?_) (fun t38=>?_)
   ·have h2:dG y.name b.name = true:=t38;have e1:d6 l.bo i = 6:=by unfold d6; rw [hbd,VP (by rw [h1]; decide),VQ (by rw [hbdup]; exact k8 hy hkn h2)]
    refine ae ?_;rw[e0,dX hin hj (by rw[e1];decide),e1];rfl
   have h2:dG y.name b.name=false:=t38;refine ga aE ?_;exact aH J2 (k+1) ⟨hkn,kl hy hd h2⟩
  have hkn:=a8 hk t23;subst hkn;have hnd:¬f7 (l.bo.map Bd.name) k=true:=by rw[hbdup,hd];decide
  have e1:d6 l.bo k=if 8<b.pts.length then 4 else eU b.pts.length (dZ b.pts):=by unfold d6;rw[hbd,VP (by rw[h1];decide),VP hnd]
  refine gi (ay hb) ?_;refine gc (KA b hbo) ?_;refine gC (fun t46=>?_) (fun t46=>?_)
  ·have h3:=dY t46;refine ae ?_;rw[e0,dX hin hj (by rw[e1];exact h3),e1]
  have h3:=dD t46;refine ga aE ?_;exact aH J1 (k+1) ⟨hin,fun j h9=>by rcases lt_or_ge j k with g |g;exact hj j g;(have:j=k:=by omega);subst this;exact e1.trans h3⟩
 have hin:=a8 hi t10;subst hin;refine ae ?_;rw[e0,mT hj];rfl
theorem RS(l:Li)(hl:l.ok)(i:Nat)(hi:i<l.jo.length)(h16:l.jo.length<=16):FP 97 [l.av,i64 i] (i64 (f6 l i)):=by
 obtain⟨j,hjj⟩:=az hi;have hbd:l.jo.getD i default=j:=aO hjj;have hbdup:=mZ Jt.name hjj;refine af func97 ?_;refine gi (ay hjj) ?_;refine gc (tG j.name (hl.jnames j (mem_of_getElem? hjj))) ?_;refine gC (fun t17=>?_) (fun t17=>?_)
 ·have h0:=di t17;refine ae ?_;unfold f6;rw[hbd,VQ h0];rfl
 have h0:=dr t17;refine aN [1,2,5] [2,5] (fun(k:Nat)=>[(6,some (i64 k))]) (fun _=>[]) (fun k=>k<=i/\(l.jo.take k).any (fun y=>dG y.name j.name)=false) (fun k=>i-k) 0 ⟨zero_le _,rfl⟩ ?_;rintro k ⟨hk,hd⟩ K1 J1;refine gC (fun t20=>?_) (fun t20=>?_)
 ·have hkn:=aT t20;obtain⟨y,hy⟩:∃y,l.jo[k]?=some y:=az oz;refine gi (ay hy) ?_;refine gD ?_;refine gC (fun t31=>?_) (fun t31=>?_)
  ·have h2:dG y.name j.name=true:=t31;refine ae ?_;unfold f6;rw[hbd,VP (by rw[h0];decide),VQ (by rw[hbdup];exact k8 hy hkn h2)];rfl
  have h2:dG y.name j.name=false:=t31;refine ga aE ?_;exact aH J1 (k+1) ⟨hkn,kl hy hd h2⟩
 have hkn:=a8 hk t20;subst hkn;have hnd:¬f7 (l.jo.map Jt.name) k=true:=by rw[hbdup,hd];decide
 have e1:f6 l k=d9 l j:=by unfold f6;rw[hbd,VP (by rw[h0];decide),VP hnd]
 refine gC (fun t39=>?_) (fun t39=>?_)
 ·have h1:=Ig t39;refine ae ?_;rw[e1];unfold d9;rw[VQ h1];rfl
 have h1:=I4 t39;refine gl ?_;refine gc (qI j.a l.bo.length) ?_;refine bS ?_;refine bM (fun _=>(qI j.b l.bo.length)) ?_;refine gC (fun t55=>?_) (fun t55=>?_)
 ·have h2:=o9 t55;refine ae ?_;rw[e1];unfold d9;rw[VP h1,VQ h2];rfl
 have h2:=oF t55;have h2n:¬(br j.a l.bo.length=false\/br j.b l.bo.length=false):=by rw[h2.1,h2.2];simp
 obtain⟨A,hA,pA,mA,zA0⟩:=p8 h2.1;obtain⟨B,hB,pB,mB,zB0⟩:=p8 h2.2;refine gC (fun t60=>?_) (fun t60=>?_)
 ·have h3:=bV t60;refine ae ?_;rw[e1];unfold d9;rw[VP h1,VP h2n,VQ h3];rfl
 have h3:=cr t60;refine gi (ay hA) ?_;refine gi (ay hB) ?_;refine gD ?_;refine gl ?_;refine gc (qI j.point A.pts.length) ?_;refine bS ?_;refine bM (fun _=>(qI j.on B.pts.length)) ?_;refine gC (fun t88=>?_) (fun t88=>?_)
 ·have h4:=o9 t88;refine ae ?_;rw[e1];unfold d9;rw[VP h1,VP h2n,VP h3,pA,pB,VQ h4];rfl
 have h4:=oF t88;have h4n:¬(br j.point A.pts.length=false\/br j.on B.pts.length=false):=by rw[h4.1,h4.2];simp
 refine gC (fun t91=>?_) (fun t91=>?_)
 ·have h5:=bV t91;refine gC (fun t94=>?_) (fun t94=>?_)
  ·have h6:=sr t94;refine ae ?_;rw[e1];unfold d9;rw[VP h1,VP h2n,VP h3,pA,pB,VP h4n,VQ h5,VQ h6];rfl
  have h6:=Ax t94;refine ae ?_;rw[e1];unfold d9;rw[VP h1,VP h2n,VP h3,pA,pB,VP h4n,VQ h5,VP (by rw[h6];simp)];rfl
 have h5:=cr t91;refine gl ?_;refine gc (qI j.to B.pts.length) ?_;refine gC (fun t100=>?_) (fun t100=>?_)
 ·have h6:=di t100;refine ae ?_;rw[e1];unfold d9;rw[VP h1,VP h2n,VP h3,pA,pB,VP h4n,VP h5,VQ h6];rfl
 have h6:=dr t100;obtain⟨m1,g1,d1,mm1,z1⟩:=ui h4.2;obtain⟨m2,g2,d2,mm2,z2⟩:=ui h6;have mo1:=(hl.bo B mB).pts m1 mm1;have mo2:=(hl.bo B mB).pts m2 mm2;refine gi (ay g1) ?_;refine gi (ay g2) ?_;refine gc (Nt m1 m2 mo1 mo2) ?_;refine gD ?_;refine gC (fun t111=>?_) (fun t111=>?_)
 ·have h7:=of_decide_eq_true t111;refine ae ?_;rw[e1];unfold d9;rw[VP h1,VP h2n,VP h3,pA,pB,VP h4n,VP h5,VP (by rw[h6];decide),d1,d2,VQ h7];rfl
 have h7:=of_decide_eq_false t111;refine ae ?_;rw[e1];unfold d9;rw[VP h1,VP h2n,VP h3,pA,pB,VP h4n,VP h5,VP (by rw[h6];decide),d1,d2,VP h7];rfl
theorem PK(l:Li)(hl:l.ok)(i:Nat)(hi:i<l.dv.length)(h2l:l.dv.length<=2):FP 98 [l.av,i64 i] (i64 (dN l i)):=by
 obtain⟨b,hb⟩:=az hi;have hbd:l.dv.getD i default=b:=aO hb;have hbdup:=mZ Dr.name hb;refine af func98 ?_;refine gi (ay hb) ?_;refine gc (tG b.name (hl.dnames b (mem_of_getElem? hb))) ?_;refine gC (fun t16=>?_) (fun t16=>?_)
 ·have h1:=di t16;refine ae ?_;unfold dN;rw[hbd,VQ h1];rfl
 have h1:=dr t16;refine aN [1,2,5] [2,5] (fun(k:Nat)=>[(6,some (i64 k))]) (fun _=>[]) (fun k=>k<=i/\(l.dv.take k).any (fun y=>dG y.name b.name)=false) (fun k=>i-k) 0 ⟨zero_le _,rfl⟩ ?_;rintro k ⟨hk,hd⟩ K1 J1;refine gC (fun t19=>?_) (fun t19=>?_)
 ·have hkn:=aT t19;obtain⟨y,hy⟩:∃y,l.dv[k]?=some y:=az oz;refine gi (ay hy) ?_;refine gD ?_;refine gC (fun t30=>?_) (fun t30=>?_)
  ·have h2:dG y.name b.name=true:=t30;refine ae ?_;unfold dN;rw[hbd,VP (by rw[h1];decide),VQ (by rw[hbdup];exact k8 hy hkn h2)];rfl
  have h2:dG y.name b.name=false:=t30;refine ga aE ?_;exact aH J1 (k+1) ⟨hkn,kl hy hd h2⟩
 have hkn:=a8 hk t19;subst hkn;have hnd:¬f7 (l.dv.map Dr.name) k=true:=by rw[hbdup,hd];decide
 refine gl ?_;refine gc (qI b.body l.bo.length) ?_;refine gC (fun t37=>?_) (fun t37=>?_)
 ·have h3:=di t37;refine ae ?_;unfold dN;rw[hbd,VP (by rw[h1];decide),VP hnd,VQ h3];rfl
 have h3:=dr t37;refine gC (fun t40=>?_) (fun t40=>?_)
 ·have h4:=bV t40;refine ae ?_;unfold dN;rw[hbd,VP (by rw[h1];decide),VP hnd,VP (by rw[h3];decide),VQ h4];rfl
 have h4:=cr t40;have e1:dN l k=if(l.dv.take k).any (fun d=>decide (d.body=b.body))=true then 6 else 0:=by unfold dN;rw[hbd,VP (by rw[h1];decide),VP hnd,VP (by rw[h3];decide),VP h4]
 refine aN [1,2,5] [2,5] (fun(q:Nat)=>[(7,some (i64 q))]) (fun _=>[]) (fun q=>q<=k/\(l.dv.take q).any (fun d=>decide (d.body=b.body))=false) (fun q=>k-q) 0 ⟨zero_le _,rfl⟩ ?_;rintro q ⟨hq,hqd⟩ K2 J2;refine gC (fun t43=>?_) (fun t43=>?_)
 ·have hqn:=aT t43;obtain⟨y,hy⟩:∃y,l.dv[q]?=some y:=az oz;refine gi (ay hy) ?_;refine gD ?_;refine gC (fun t54=>?_) (fun t54=>?_)
  ·have h5:decide (y.body=b.body)=true:=decide_eq_true (bV t54);refine ae ?_;rw[e1,VQ (k8 hy hqn h5)];rfl
  have h5:decide (y.body=b.body)=false:=decide_eq_false (cr t54);refine ga aE ?_;exact aH J2 (q+1) ⟨hqn,kl hy hqd h5⟩
 have hqn:=a8 hq t43;subst hqn;refine ae ?_;rw[e1,hqd];rfl
theorem DM(l:Li)(hl:l.ok):FP 32 [l.av] (i64 (aG l)):=by
 have hlb:=hl.lb;refine af func32 ?_;refine gc (tG l.name hl.name) ?_;refine gC (fun t11=>?_) (fun t11=>?_)
 ·have h1:=di t11;refine ae ?_;unfold aG;rw[VQ h1];rfl
 have h1:=dr t11;refine gl ?_;refine gC (fun t15=>?_) (fun t15=>?_)
 ·have h2:=E8 t15;refine ae ?_;unfold aG;rw[VP (by rw[h1];decide),VQ h2];rfl
 have h2:=Er t15;refine gl ?_;refine gC (fun t19=>?_) (fun t19=>?_)
 ·have h3:8<l.bo.length:=jb t19;refine ae ?_;unfold aG;rw[VP (by rw[h1];decide),VP h2,VQ h3];rfl
 have h3:l.bo.length<=8:=gp t19;have e0:aG l=if ig l≠0 then ig l else if eL l≠0 then eL l else gg l:=by unfold aG;rw[VP (by rw[h1];decide),VP h2,VP oz]
 refine gc (Lh l hl) ?_;refine gC (fun t23=>?_) (fun t23=>?_)
 ·have h4:ig l≠0:=dY t23;refine ae ?_;rw[e0,VQ h4]
 have h4:ig l=0:=dD t23;refine gl ?_;refine gC (fun t28=>?_) (fun t28=>?_)
 ·have h5:16 < l.jo.length:=jb t28;have ej:eL l = 4:=by unfold eL; rw [VQ h5]
  refine ae ?_;rw[e0,VP (by rw[h4];simp),VQ (by rw[ej];decide),ej];rfl
 have h5:l.jo.length<=16:=gp t28;have ej:eL l=eU l.jo.length (f6 l):=by unfold eL;rw[VP oz]
 refine aN [1] [1] (fun(i:Nat)=>[(4,some (i64 i))]) (fun _=>[]) (fun i=>i<=l.jo.length/\∀j,j<i->f6 l j=0) (fun i=>l.jo.length-i) 0 ⟨zero_le _,fun j h=>by omega⟩ ?_;rintro i ⟨hi,hj⟩ K1 J1;refine gl ?_;refine gC (fun t33=>?_) (fun t33=>?_)
 ·have hin:=aT t33;refine gc (RS l hl i hin h5) ?_;refine gC (fun t40=>?_) (fun t40=>?_)
  ·have h6:=dY t40;refine ae ?_;rw[e0,VP (by rw[h4];simp),VQ (by rw[ej,dX hin hj h6];exact h6),ej,dX hin hj h6]
  have h6:=dD t40;refine ga aE ?_;exact aH J1 (i+1) ⟨hin,fun j h9=>by rcases lt_or_ge j i with g |g;exact hj j g;(have:j=i:=by omega);subst this;exact h6⟩
 have hin:=a8 hi t33;subst hin;have ejz:eL l=0:=ej.trans (mT hj);have e0':aG l=gg l:=by rw[e0,VP (by rw[h4];simp),VP (by rw[ejz];simp)]
 refine gl ?_;refine gC (fun t45=>?_) (fun t45=>?_)
 ·have h6:2<l.dv.length:=jb t45;refine ae ?_;rw[e0'];unfold gg;rw[VQ h6];rfl
 have h6:l.dv.length<=2:=gp t45;have ed:gg l=eU l.dv.length (dN l):=by unfold gg;rw[VP oz]
 refine aN [1] [1] (fun(k:Nat)=>[(6,some (i64 k))]) (fun _=>[]) (fun k=>k<=l.dv.length/\∀j,j<k->dN l j=0) (fun k=>l.dv.length-k) 0 ⟨zero_le _,fun j h=>by omega⟩ ?_;rintro k ⟨hk,hkj⟩ K2 J2;refine gl ?_;refine gC (fun t50=>?_) (fun t50=>?_)
 ·have hkn:=aT t50;refine gc (PK l hl k hkn h6) ?_;refine gC (fun t57=>?_) (fun t57=>?_)
  ·have h7:=dY t57;refine ae ?_;rw[e0',ed,dX hkn hkj h7]
  have h7:=dD t57;refine ga aE ?_;exact aH J2 (k+1) ⟨hkn,fun j h9=>by rcases lt_or_ge j k with g |g;exact hkj j g;(have:j=k:=by omega);subst this;exact h7⟩
 have hkn:=a8 hk t50;subst hkn;refine ae ?_;rw[e0',ed,mT hkj];rfl
theorem Oa(l:Li)(hl:l.okw):FP 57 [l.av] (bl (ir l)):=by
 have hbl:=hl.lb;refine af func57 ?_;refine gl ?_;refine aN [1,8,9] [1] (fun(i:Nat)=>[(10,some (i64 i))]) (fun _=>[]) (fun i=>i<=l.bo.length/\(l.bo.take i).all oV=true) (fun i=>l.bo.length-i) 0 ⟨zero_le _,rfl⟩ ?_;rintro i ⟨hi,hj⟩ K1 J1;refine gC (fun t11=>?_) (fun t11=>?_)
 ·have hin:=aT t11;obtain⟨b,hb⟩:=az hin;refine gi (ay hb) ?_;refine gl ?_;refine gC (fun t17=>?_) (fun t17=>?_)
  ·have h1:30<b.pts.length:=jb t17;refine ae ?_;unfold ir;rw[kQ hb (by unfold oV;rw[decide_eq_false oz];rfl)];rfl
  have h1:b.pts.length<=30:=gp t17;refine gl ?_;refine aN [1,8,9,10,19,20] [1] (fun(k:Nat)=>[(21,some (i64 k))]) (fun _=>[]) (fun k=>k<=b.pts.length/\(b.pts.take k).all kS=true) (fun k=>b.pts.length-k) 0 ⟨zero_le _,rfl⟩ ?_;rintro k ⟨hk,hkj⟩ K2 J2;refine gC (fun t22=>?_) (fun t22=>?_)
  ·have hkn:=aT t22;obtain⟨p,hp⟩:=az hkn;refine gi (ay hp) ?_;refine gl ?_;refine bS ?_;refine bS ?_;refine bS ?_;refine gC (fun t50=>?_) (fun t50=>?_)
   ·have h2:kS p=false:=O6 t50;refine ae ?_;unfold ir;rw[kQ hb (by unfold oV;rw[kQ hp h2,Bool.and_false])];rfl
   have h2:kS p=true:=UM t50;refine ga aE ?_;exact aH J2 (k+1) ⟨hkn,lT hkj hp h2⟩
  have hkn:=a8 hk t22;refine ga aE ?_;exact aH J1 (i+1) ⟨hin,lT hj hb (by unfold oV;rw[decide_eq_true h1,lO hkn hkj];rfl)⟩
 have hin:=a8 hi t11;refine gl ?_;refine bS ?_;refine bS ?_;refine ae ?_;exact congrArg bl (NY (lO hin hj))
def kU(r:Rt):Bool:=!(cond (cond (cond (aa .gtr (r.num.length:Int) 1) true (aa .gtr (r.den.length:Int) 1)) true (cond (aa .eql (r.num.length:Int) 1) (aa .gtr (ai r.num 0:Int) 400) false)) true
  (cond (aa .eql (r.den.length:Int) 1) (aa .gtr (ai r.den 0:Int) 20) false))
theorem DY(rs:List Rt)(hl:rs.length<=1000):FP 184 [.lst 3 (rs.map Rt.av)] (bl (rs.all kU)):=by
 refine af func184 ?_;refine gl ?_;refine aN [5,6] [] (fun(i:Nat)=>[(7,some (i64 i))]) (fun _=>[]) (fun i=>i<=rs.length/\(rs.take i).all kU=true) (fun i=>rs.length-i) 0 ⟨zero_le _,rfl⟩ ?_;rintro i ⟨hi,hj⟩ K1 J1;refine gC (fun t8=>?_) (fun t8=>?_)
 ·have hin:=aT t8;obtain ⟨r,hr⟩:=az hin;refine gi (ay hr) ?_;refine gl ?_;refine bS ?_;refine bS ?_;refine lJ (fun ⟨h,h2⟩=>(ch (by have:=bV h2; have e:Int.toNat 0 = 0:=rfl; omega))) ?_;refine bS ?_;refine lJ (fun ⟨h,h2⟩=>(ch (by have:=bV h2; have e:Int.toNat 0 = 0:=rfl; omega))) ?_;refine gC (fun t46=>?_) (fun t46=>?_)
  ·have h1:kU r=false:=congrArg Bool.not t46;refine ae ?_;rw[kQ hr h1];rfl
  have h1:kU r=true:=congrArg Bool.not t46;refine ga aE ?_;exact aH J1 (i+1) ⟨hin,lT hj hr h1⟩
 have hin:=a8 hi t8;refine ae ?_;rw[lO hin hj];rfl
def mh(x:Tn):Bool:=decide (x.t.num.length<=1/\x.t.den.length<=1)
def kX(m:Mk):Bool:=decide (m.x.num.length<=1/\m.x.den.length<=1/\m.y.num.length<=1/\m.y.den.length<=1)
def pS(xs:List Tn):Bool:=xs.all (fun x=>[x.t].all kU)
def sI(ps:List Mk):Bool:=ps.all (fun p=>[p.x,p.y].all kU)
def pY(l:Li):Bool:=l.bo.all (fun b=>sI b.pts)
theorem SW(l:Li)(hl:l.ok)(xs:List Tn)(hxl:xs.length<=281474976710656):FP 94 [l.av,.lst 4 (xs.map Tn.av)] (bl (pS xs&&pY l)):=by
 have hlb:=hl.lb;refine af func94 ?_;refine gl ?_;refine aN [2,11,12] [2] (fun(i:Nat)=>[(13,some (i64 i))]) (fun _=>[]) (fun i=>i<=xs.length/\(xs.take i).all (fun x=>[x.t].all kU)=true) (fun i=>xs.length-i) 0 ⟨zero_le _,rfl⟩ ?_;rintro i ⟨hi,hj⟩ K1 J1;refine gC (fun t14=>?_) (fun t14=>?_)
 ·have hin:=aT t14;obtain ⟨x,hx⟩:=az hin;refine gi (ay hx) ?_;refine gc (DY [x.t] (by show 1 <= _; omega)) ?_;refine gC (fun t21=>?_) (fun t21=>?_)
  ·have h1:=di t21;refine ae ?_;unfold pS;rw[kQ hx h1];rfl
  have h1:=dr t21;refine ga aE ?_;exact aH J1 (i+1) ⟨hin,lT hj hx h1⟩
 have hT:pS xs=true:=lO (a8 hi t14) hj;refine gl ?_;refine aN [2,24,25] [2] (fun(i:Nat)=>[(26,some (i64 i))]) (fun _=>[]) (fun i=>i<=l.bo.length/\(l.bo.take i).all (fun b=>sI b.pts)=true) (fun i=>l.bo.length-i) 0 ⟨zero_le _,rfl⟩ ?_;rintro i ⟨hi2,hj2⟩ K2 J2;refine gC (fun t27=>?_) (fun t27=>?_)
 ·have hin:=aT t27;obtain⟨b,hb⟩:=az hin;have hbl:=(hl.bo b (mem_of_getElem? hb)).ll;refine gi (ay hb) ?_;refine gl ?_;refine aN [2,24,25,26,31,32] [2] (fun(k:Nat)=>[(33,some (i64 k))]) (fun _=>[]) (fun k=>k<=b.pts.length/\(b.pts.take k).all (fun p=>[p.x,p.y].all kU)=true) (fun k=>b.pts.length-k) 0 ⟨zero_le _,rfl⟩ ?_;rintro k ⟨hk,hkj⟩ K3 J3;refine gC (fun t34=>?_) (fun t34=>?_)
  ·have hkn:=aT t34;obtain ⟨p,hp⟩:=az hkn;refine gi (ay hp) ?_;refine gc (DY [p.x,p.y] (by show 2 <= _; omega)) ?_;refine gC (fun t43=>?_) (fun t43=>?_)
   ·have h1:=di t43;refine ae ?_;rw[hT];unfold pY;rw[kQ hb (by unfold sI;exact kQ hp h1)];rfl
   have h1:=dr t43;refine ga aE ?_;exact aH J3 (k+1) ⟨hkn,lT hkj hp h1⟩
  have hP:sI b.pts=true:=lO (a8 hk t34) hkj;refine ga aE ?_;exact aH J2 (i+1) ⟨hin,lT hj2 hb hP⟩
 have hL:pY l=true:=lO (a8 hi2 t27) hj2;refine ae ?_;rw[hT,hL];rfl
def yW(l:Li)(xs:List Tn):Bool :=
  cond (cond (aa .neq (cA l:Int) 0) true (aa .leq (((aK l).length:Int)-l.dv.length) 1)) true (cond (aa .eql (((aK l).length:Int)-l.dv.length) 2) (pS xs&&pY l) false)
def jV(l:Li)(xs:List Tn):Bool :=
  (ir l&&decide (xs.length<=20))&&(xs.all mh&&(l.bo.all (fun b=>b.pts.all kX)&&(if aG l=0 then yW l xs else true)))
theorem VM{l:Li}{n:Nat}(h:cond (!ir l) true (aa .gtr (n:Int) 20)=true):(ir l&&decide (n<=20))=false:=by
 cases hb:ir l
 ·rfl
 ·rw[hb]at h;have h1:20<n:=jb (b:=20) h;rw[decide_eq_false oz];rfl
theorem JK{l:Li}{n:Nat}(h:cond (!ir l) true (aa .gtr (n:Int) 20)=false):ir l=true/\n<=20:=by
 cases hb:ir l
 ·rw[hb]at h;cases h
 ·rw[hb]at h;exact⟨rfl,gp (b:=20) h⟩
theorem Cv{x:Tn}:cond (aa .gtr (x.t.num.length:Int) 1) true (aa .gtr (x.t.den.length:Int) 1)=!mh x:=by
 unfold mh;have e1:=kP (n:=x.t.num.length) (k:=1);have e2:=kP (n:=x.t.den.length) (k:=1);rw[io];refine(congr (congrArg _ e1) e2).trans ?_;rw[<- Bool.decide_or,<- decide_not];exact decide_eq_decide.2 oz
theorem Ea{m:Mk}:cond (cond (cond (aa .gtr (m.x.num.length:Int) 1) true (aa .gtr (m.x.den.length:Int) 1)) true (aa .gtr (m.y.num.length:Int) 1)) true (aa .gtr (m.y.den.length:Int) 1)=!kX m:=by
 unfold kX;have e1:=kP (n:=m.x.num.length) (k:=1);have e2:=kP (n:=m.x.den.length) (k:=1);have e3:=kP (n:=m.y.num.length) (k:=1);have e4:=kP (n:=m.y.den.length) (k:=1);rw[io,io,io];refine(congr (congrArg _ (congr (congrArg _ (congr (congrArg _ e1) e2)) e3)) e4).trans ?_;rw[<- Bool.decide_or,<- Bool.decide_or,<- Bool.decide_or,<- decide_not];exact decide_eq_decide.2 oz
theorem kE{l:Li}(hl:aG l=0):(aK l).length<=8:=by
 unfold aK;split
 ·exact(sk hl).2
 ·exact zero_le _
theorem Nd(l:Li)(hw:l.okw)(xs:List Tn)(hxl:xs.length<=281474976710656):FP 31 [l.av,.lst 4 (xs.map Tn.av)] (bl (jV l xs)):=by
 refine af func31 ?_;refine gc (Oa l hw) ?_;refine bS ?_;refine gC (fun t21=>?_) (fun t21=>?_)
 ·have h1:=VM t21;refine ae ?_;unfold jV;rw[h1];rfl
 obtain⟨g1,g2⟩:=JK t21;have hl:=zT g1 hw;have hlb:=hl.lb;refine gl ?_;refine aN [1,2,22,23] [2] (fun(i:Nat)=>[(24,some (i64 i))]) (fun _=>[]) (fun i=>i<=xs.length/\(xs.take i).all mh=true) (fun i=>xs.length-i) 0 ⟨zero_le _,rfl⟩ ?_;rintro i ⟨hi,hj⟩ K1 J1;refine gC (fun t25=>?_) (fun t25=>?_)
 ·have hin:=aT t25;obtain⟨x,hx⟩:=az hin;refine gi (ay hx) ?_;refine gl ?_;refine bS ?_;refine gC (fun t39=>?_) (fun t39=>?_)
  ·have h1 : mh x = false := by rw [Cv] at t39; exact di t39
   refine ae ?_;unfold jV;rw[g1,decide_eq_true g2,kQ hx h1];rfl
  have h1:mh x=true:=by rw[Cv]at t39;exact dr t39
  refine ga aE ?_;exact aH J1 (i+1) ⟨hin,lT hj hx h1⟩
 have hT:xs.all mh=true:=lO (a8 hi t25) hj;refine gl ?_;refine aN [1,2,42,43] [2] (fun(i:Nat)=>[(44,some (i64 i))]) (fun _=>[]) (fun i=>i<=l.bo.length/\(l.bo.take i).all (fun b=>b.pts.all kX)=true) (fun i=>l.bo.length-i) 0 ⟨zero_le _,rfl⟩ ?_;rintro i ⟨hi2,hj2⟩ K2 J2;refine gC (fun t45=>?_) (fun t45=>?_)
 ·have hin:=aT t45;obtain⟨b,hb⟩:=az hin;have hbl:=(hl.bo b (mem_of_getElem? hb)).ll;refine gi (ay hb) ?_;refine gl ?_;refine aN [1,2,42,43,44,49,50] [2] (fun(k:Nat)=>[(51,some (i64 k))]) (fun _=>[]) (fun k=>k<=b.pts.length/\(b.pts.take k).all kX=true) (fun k=>b.pts.length-k) 0 ⟨zero_le _,rfl⟩ ?_;rintro k ⟨hk,hkj⟩ K3 J3;refine gC (fun t52=>?_) (fun t52=>?_)
  ·have hkn:=aT t52;obtain⟨p,hp⟩:=az hkn;refine gi (ay hp) ?_;refine gl ?_;refine bS ?_;refine bS ?_;refine bS ?_;refine gC (fun t80=>?_) (fun t80=>?_)
   ·have h1 : kX p = false := by rw [Ea] at t80; exact di t80
    refine ae ?_;unfold jV;rw[g1,decide_eq_true g2,hT,kQ hb (kQ hp h1)];rfl
   have h1:kX p=true:=by rw[Ea]at t80;exact dr t80
   refine ga aE ?_;exact aH J3 (k+1) ⟨hkn,lT hkj hp h1⟩
  have hP:b.pts.all kX=true:=lO (a8 hk t52) hkj;refine ga aE ?_;exact aH J2 (i+1) ⟨hin,lT hj2 hb hP⟩
 have hL:l.bo.all (fun b=>b.pts.all kX)=true:=lO (a8 hi2 t45) hj2;refine gc (DM l hl) ?_;refine gC (fun t85=>?_) (fun t85=>?_)
 ·have h1:=dY t85;refine ae ?_;unfold jV;rw[g1,decide_eq_true g2,hT,hL,VP h1];rfl
 have h1:=dD t85;have hsl:=kE h1;have hld:=hl.ld;refine gc (m9 l hl h1) ?_;refine gl ?_;refine gl ?_;refine ga (dq oz) ?_;refine bM (fun _=>(SW l hl xs hxl)) ?_;refine ae ?_;unfold jV yW;rw[g1,decide_eq_true g2,hT,hL,VQ h1];rfl
section
variable{l:Li}{xs:List Tn}{s g:Nat}(W:WkC l xs s g){k:Nat}{gr:Gr}(hg:(aK l)[k]?=some gr){j r E:Nat}{a:Aq}(Q:QInv l j r E a){n y:Nat}(ok:eD s g (n+1) y j r E=true)(hy:gr.kind≠0->0<y)
include W hg Q ok hy
theorem CX:∃F,F<=20000000000/\qj F l k a.as false/\AB a.as/\(Lw.llq a.as.rs).length<=2/\(gr.kind≠0->F=3900000/\DyS a.as):=by
 obtain⟨⟨hE,hr,hj⟩,_⟩:=ut ok;have h3:(Lw.llq a.as.rs).length<=2:=by rw[a.llq];have:=Q.lv;omega
 have al:=Q.ab W.li (by omega:E<=50000000000) hr
 by_cases hk:gr.kind=0
 ·exact⟨E,hE,Q.sma oz (le_refl _) k false,al,h3,fun h=>absurd hk h⟩
 ·have hy:=hy hk;obtain ⟨y',rfl⟩:∃ y',y = y' + 1:=⟨y - 1,by omega⟩
  obtain⟨⟨hj,hE,hr,hX,hJ⟩,_⟩:=ur ok;exact⟨3900000,by omega,Q.sma oz hE k false,al,h3,fun _=>⟨rfl,QInv.dyS W hg Q hr hj⟩⟩
theorem DO:oi l k (bW gr xs) a.as=((eM l a.as gr (bW gr xs)).map Sv.av,jM l a.as gr (bW gr xs)):=by
 have _:=ok;have _:=hy;unfold oi;have hgA:fI l (k:Nat)=gr:=aO hg;rw[VQ (Q.dy0 W.li W.sp hg false),hgA];exact Prod.ext (Tv _ _ _ _) rfl
theorem KF:FP 17 [l.av,i64 k,(bW gr xs).av,a.av] (.tup [.lst 3 ((eM l a.as gr (bW gr xs)).map Sv.av),bm (jM l a.as gr (bW gr xs))]):=by
 obtain⟨F,hF,hs,al,h3,hR⟩:=CX W hg Q ok hy;have hgA:fI l (k:Nat)=gr:=aO hg;have h:=OF l W.hl k (W.tn hg).1 (W.tn hg).2.1 a.as al (fun _=>h3) hF hs (fun _ h=>hR (by rw[hgA]at h;exact h));rw[DO W hg Q ok hy,a.as_av]at h;exact h
theorem U9:∃y' j' r' E',eD s g n y' j' r' E'=true/\(y'+(if gr.kind≠0 then 1 else 0)=y)/\∀sv∈eM l a.as gr (bW gr xs),QInv l j' r' E' (a.nxt gr sv):=by
 by_cases hk:gr.kind=0
 ·exact⟨y,j,r,_,(ut ok).2,by simp[hk],Q.drv W hg ok hk⟩
 ·have hy:=hy hk;obtain ⟨y',rfl⟩:∃ y',y = y' + 1:=⟨y - 1,by omega⟩
  exact⟨y',j+1,_,_,(ur ok).2,by simp[hk],Q.dy W hg ok hk⟩
end
def jU(g:Gr):Bool:=decide (g.kind≠0)
theorem Cm{F:Int->Bool}{sg:Bool}{f:Sv->List Aq×Nat}{M:Nat}:∀{S:List Sv},(∀s∈S,(f s).1.length<=M)->(dV F sg f S).1.length<=S.length*M
 |[],h=>zero_le _
 |s::S,h=>by
  have h1:=h s mem_cons_self;have h2:=Cm (F:=F) (sg:=sg) (S:=S) (fun x hx=>h x (mem_cons_of_mem _ hx));rw[mM,length_cons,Nat.succ_mul];split
  ·omega
  ·split
   ·omega
   ·split
    ·omega
    ·simp only[length_append];omega
structure WkSt(l:Li)(s g n:Nat)(a:Aq):Prop where
  st:∃j r E y,QInv l j r E a/\eD s g n y j r E=true/\((aK l).drop a.ms.length).countP jU<=y
  ln:a.ms.length+n=(aK l).length
theorem WkSt.next{l:Li}{xs:List Tn}{s g n:Nat}(W:WkC l xs s g){a:Aq}(h:WkSt l s g (n+1) a):∃gr,(aK l)[a.ms.length]?=some gr /\
  FP 17 [l.av,i64 a.ms.length,(bW gr xs).av,a.av] (.tup [.lst 3 ((eM l a.as gr (bW gr xs)).map Sv.av),bm (jM l a.as gr (bW gr xs))]) /\
  SolP (eM l a.as gr (bW gr xs)) gr.kind a.ts.length gr.bo.length/\∀sv∈eM l a.as gr (bW gr xs),WkSt l s g n (a.nxt gr sv):=by
 obtain⟨⟨j,r,E,y,Q,ok,hc⟩,hl⟩:=h;obtain⟨gr,hg⟩:=az (l:=aK l) (i:=a.ms.length) oz;have hdr:=mt hg;rw[hdr,List.countP_cons]at hc
 have hy:gr.kind≠0->0<y:=fun hk=>by
  have:jU gr=true:=decide_eq_true hk;rw[VQ this]at hc;omega
 obtain⟨y',j',r',E',ok',ey,hQ⟩:=U9 W hg Q ok hy;refine⟨gr,hg,KF W hg Q ok hy,Rb W hg Q ok hy,fun sv hsv=>⟨⟨j',r',E',y',hQ sv hsv,ok',?_⟩,?_⟩⟩
 ·have e : (a.nxt gr sv).ms.length = a.ms.length + 1 := by show (a.ms ++ [sv.mode]).length = _; simp
  rw[e]
  by_cases hk:gr.kind=0
  ·have h1 : jU gr = false := by unfold jU; simp [hk]
   simp only[hk,ne_eq,not_true_eq_false,if_false]at ey;rw[h1]at hc;simp only[Bool.false_eq_true,if_false]at hc;omega
  ·have h1:jU gr=true:=decide_eq_true hk;rw[VQ hk]at ey;rw[VQ h1]at hc;omega
 ·show(a.ms++[sv.mode]).length+n=_;rw[length_append];simp only[length_cons,length_nil];omega
theorem yo{l:Li}{xs:List Tn}{s g:Nat}(W:WkC l xs s g)(F:Nat->Int->Bool)(sg:Bool):∀(n:Nat)(a:Aq),WkSt l s g n a->(gj F sg l xs (aK l) n a).1.length<=2^n
 |0,a,h=>le_refl _
 |n+1,a,h=>by
  obtain⟨gr,hg,_,hP,hn⟩:=h.next W;unfold gj;rw[aO hg];split
  ·exact zero_le _
  ·have h1:=Cm (F:=F a.ms.length) (sg:=sg) (f:=fun sv=>gj F sg l xs (aK l) n (a.nxt gr sv)) (M:=2^n) (S:=eM l a.as gr (bW gr xs)) (fun sv hsv=>yo W F sg n _ (hn sv hsv));have h2:=mul_le_mul_right (2^n) hP.two;rw[Nat.pow_succ];omega
theorem zG{l:Li}{xs:List Tn}{s g:Nat}(W:WkC l xs s g)(F:Nat->Int->Bool)(sg:Bool){fo:FuncId}{caps:List AV}(hF:∀(k:Nat)(m:Int),k<(aK l).length->FP fo ([i64 k,i64 m]++caps) (bl (F k m))) :
  ∀(n:Nat)(a:Aq),WkSt l s g n a->∀o:List Aq,o.length+2^n<=1000 ->
   Con prog 100 [.ptr 1000 0,a.av] (eQ l xs (aK l) fo caps sg 1001 (o.map Aq.av)) (bm (gj F sg l xs (aK l) n a).2) (eQ l xs (aK l) fo caps sg 900 ((o++(gj F sg l xs (aK l) n a).1).map Aq.av))
 |0,a,h,o,ho=>by
  have hG:(aK l).length<=100:=by have:=kE W.li;omega
  obtain⟨⟨j,r,E,y,Q,ok,_⟩,hl⟩:=h;obtain⟨hE,_,_⟩:=Bc ok;have hlb:=(dp W.li).2.2.2.1;have hln:=Q.ln;have h3:=Q.tw.three;obtain⟨D,N,hD,hts,h1,h2⟩:=Q.tw.rb
  exact RT oz hG oz (PJ (e:=5000000000+E) Q.tw.five (fun x hx=>by
   obtain⟨i,hi⟩:=List.getElem?_of_mem hx;have hi2:=(List.getElem?_eq_some_iff.1 hi).1;have h9:=Q.tw.len i hi2;rw[aO hi]at h9;exact⟨Q.tw.five,.inr ⟨i,by omega,h9⟩,D,N,hts x hx,le_trans h1 (bT (by have:=Q.tw.le;omega)),le_trans h2 (bT (by have:=Q.tw.le;omega))⟩)
   (fun p hp=>(Q.bs p hp).up (le_refl _) Q.tw.five oz) oz oz oz oz)
 |n+1,a,h,o,ho=>by
  have hG:(aK l).length<=100:=by have:=kE W.li;omega
  have hlb:=(dp W.li).2.2.2.1;have hln:=h.ln;obtain⟨j,r,E,y,Q,ok,_⟩:=h.st;obtain⟨gr,hg,hS,hP,hn⟩:=h.next W;obtain⟨hdy,hgo⟩:=nV W.li (mem_of_getElem? hg);have h2:=wM W.li;have hxl:=W.ln;have hQl:=Q.ln;have hgb:=hgo.lb
  have key := QK (l := l) (xs := xs) (G := aK l) (fo := fo) (caps := caps) (sg := sg) (o := o) hg hG oz (fun hk => by rw [hxl]; exact BY hdy hk) hS (by have := hP.two; omega) (F := F a.ms.length) (fun m => hF _ m oz)
   (fun sv hsv => S9 (fun b hb => by rw [hQl]; exact hgo.b b hb) (by
    obtain⟨i,hi⟩:=List.getElem?_of_mem hsv;exact(hP.md i sv hi).2.2) oz oz oz)
   (f:=fun sv=>gj F sg l xs (aK l) n (a.nxt gr sv)) (M:=2^n) (B:=1000) (fun sv hsv=>yo W F sg n _ (hn sv hsv)) (by have:=mul_le_mul_right (2^n) hP.two;rw[Nat.pow_succ]at ho;omega)
   (fun o' ho' sv hsv=>zG W F sg hF n _ (hn sv hsv) o' ho')
  have e:gj F sg l xs (aK l) (n+1) a=(if jM l a.as gr (bW gr xs)≠0 then([],jM l a.as gr (bW gr xs))else dV (F a.ms.length) sg (fun sv=>gj F sg l xs (aK l) n (a.nxt gr sv)) (eM l a.as gr (bW gr xs))):=by
   conv=>lhs;unfold gj
   rw[aO hg]
  rw[e]
  by_cases hE:jM l a.as gr (bW gr xs)≠0
  ·rw[VQ hE]at key ⊢;rw[VQ hE]at key;exact key
  ·rw[VP hE]at key ⊢;rw[VP hE]at key;exact key
abbrev pR(l:Li)(xs:List Tn)(G:List Gr)(fo:FuncId)(caps:List AV)(sg:Bool)(k0 k:Nat)(es:List AV):Hp :=
  [(k0,some (.box (fc l xs G fo caps sg (.ms k 3 0 es.length)))),(k,some (.row 3 es))]
def wk(k:Nat):Nat:=bif Nat.beq k 1000 then 902 else bif Nat.beq k 902 then 1000 else qu k
theorem wt{a b:Nat}(h:¬a=b):Nat.beq a b=false:=by
 cases h1:Nat.beq a b
 ·rfl
 ·exact absurd (eq_of_beq_eq_true h1) h
theorem I8(k:Nat):wk (wk k)=k:=by
 by_cases h1:k=1000
 ·subst h1;rfl
 by_cases h2:k=902
 ·subst h2;rfl
 by_cases h3:k=1001
 ·subst h3;rfl
 by_cases h4:k=901
 ·subst h4;rfl
 have e:wk k=k:=by simp only[wk,qu,wt h1,wt h2,wt h3,wt h4,cond_false]
 rw[e,e]
theorem Iy{l:Li}{xs:List Tn}{G:List Gr}{fo:FuncId}{caps:List AV}{sg:Bool}{es:List AV}(h0:0<l.bo.length)(hl:l.bo.length<=100) :
  Con prog 101 [.ptr 902 0] (pR l xs G fo caps sg 902 901 es) (eS l).av (pR l xs G fo caps sg 902 901 es):=Con.pm I8 (VF h0 hl)
theorem G7{l:Li}{xs:List Tn}{G:List Gr}{fo:FuncId}{caps:List AV}{sg:Bool}{es es':List AV}{a:Aq}{e:Nat}
  (h:Con prog 100 [.ptr 1000 0,a.av] (eQ l xs G fo caps sg 1001 es) (bm e) (eQ l xs G fo caps sg 900 es')) :
  Con prog 100 [.ptr 902 0,a.av] (pR l xs G fo caps sg 902 901 es) (bm e) (pR l xs G fo caps sg 902 900 es'):=Con.pm I8 h
def E2:Nat->Int->Bool:=fun _ _=>true
def nc(F:Nat->Int->Bool)(sg:Bool)(l:Li)(xs:List Tn):List Aq×Nat:=gj F sg l xs (aK l) (aK l).length (eS l)
theorem PO{l:Li}{xs:List Tn}(h0:cP l xs=0)(hop:Con prog 99 [l.av,.lst 4 (xs.map Tn.av)] [] (.tup [p9 (cP l xs),bm (cP l xs)]) (tP (cP l xs) l xs))(hb:0<l.bo.length)(hl:l.bo.length<=100)
  {R:List Aq×Nat} (hw:Con prog 100 [.ptr 1000 0,(eS l).av] (eQ l xs (aK l) 189 [] false 1001 []) (bm R.2) (eQ l xs (aK l) 189 [] false 900 (R.1.map Aq.av))) :
  FP 33 [l.av,.lst 4 (xs.map Tn.av)] (.tup [.lst 3 ((if R.2≠0 then[]else R.1).map Aq.av),bm R.2]):=by
 rw[h0]at hop;have hop:Con prog 99 [l.av,.lst 4 (xs.map Tn.av)] [] (.tup [.ptr 900 0,.v .nilIface]) [(900,some (.box (fc l xs (aK l) 189 [] false (nS))))]:=hop;refine af func33 ?_;refine gt (aJ hop (bA rfl rfl) aM rfl rfl) ?_;refine gC (fun t16=>?_) (fun t16=>?_) (st1:=(3,0)) (st2:=(77777,0));cases t16;refine gW (Wk.o (sl:=[(6,some (.ptr 900 0))]) (hp:=[(900,some (.box (fc l xs (aK l) 189 [] false (nS))))])) ?_ (77777,0);refine gW (Wk.rk (k:=900) (d:=902) rfl rfl) ?_ (77777,0);refine gW (Wk.virt 901 3 rfl) ?_ (77777,0);refine gW (Wk.of (sl:=[(6,some (.ptr 902 0))]) (hp:=pR l xs (aK l) 189 [] false 902 901 []) (.k .nil) (.cons rfl (BlkSub.bL (.cons (.refl _) (.cons (.refl _) (.cons (.refl _) (.cons (.refl _) (.cons (.refl _) (.cons (.refl _) (.cons (.refl _) (.cons (.refl _) (.cons (Sub.nM _ _ _) .nil))))))))) rfl) (.k .nil))) ?_;refine gt (BT (Iy hb hl) (cG rfl) rfl rfl rfl rfl rfl) ?_;refine gt (aJ (G7 hw) (bA rfl rfl) aM rfl rfl) ?_;refine gC (fun t23=>?_) (fun t23=>?_) (st2:=(77777,0))
 ·have hE:=de t23;refine gR ?_;exact bw (by rw[VQ hE];exact Sub.tup (.cons (.nil _ _ _) (.cons (.refl _) .nil)))
 have hE:=cR t23;refine gW ((Wk.freeze (k:=900) rfl).trans<|Wk.of (sl:=[(6,some (.ptr 902 0))]) (hp:=[(902,some (.box (fc l xs (aK l) 189 [] false (.lst 3 (R.1.map Aq.av)))))]) aR (.cons rfl (BlkSub.bL (.cons (.refl _) (.cons (.refl _) (.cons (.refl _) (.cons (.refl _) (.cons (.refl _) (.cons (.refl _) (.cons (.refl _) (.cons (.refl _) (.cons (Sub.of (bD rfl)) .nil))))))))) rfl) .nil)) ?_;refine gR ?_;exact bw (Sub.of (by rw[VP oz,hE];rfl))
theorem Rh{l:Li}{xs:List Tn}{modes:List Int}(h0:cP l xs≠0)(hop:Con prog 99 [l.av,.lst 4 (xs.map Tn.av)] [] (.tup [p9 (cP l xs),bm (cP l xs)]) (tP (cP l xs) l xs)) :
  FP 45 [l.av,.lst 4 (xs.map Tn.av),.lst 1 (modes.map i64)] (.tup [(Aq.mk [] [] []).av,bm (cP l xs)]):=by
 rw[lr h0,wJ h0]at hop;refine af func45 ?_;refine gc hop ?_;refine gC (fun t18=>?_) (fun t18=>?_) (st2:=(77777,0))
 ·refine gR ?_;exact bw (Sub.tup (.cons (Sub.agg (.cons (.nil _ _ _) (.cons (.nil _ _ _) (.cons (.nil _ _ _) .nil))) rfl) (.cons (.refl _) .nil)))
 exact absurd (cR t18) h0
def gG(modes:List Int):Nat->Int->Bool:=fun k m=>decide (m=modes.getD k 0)
theorem ND{l:Li}{xs:List Tn}{modes:List Int}(hml:modes.length<=100)(h0:cP l xs=0)(hop:Con prog 99 [l.av,.lst 4 (xs.map Tn.av)] [] (.tup [p9 (cP l xs),bm (cP l xs)]) (tP (cP l xs) l xs))(hb:0<l.bo.length)(hl:l.bo.length<=100)(hsl:(aK l).length<=100)
  {R:List Aq×Nat} (hw:modes.length=(aK l).length->Con prog 100 [.ptr 1000 0,(eS l).av] (eQ l xs (aK l) 111 [.iptr [.lst 1 (modes.map i64)]] true 1001 []) (bm R.2) (eQ l xs (aK l) 111 [.iptr [.lst 1 (modes.map i64)]] true 900 (R.1.map Aq.av))) (hR:R.1.length<=1000) :
  FP 45 [l.av,.lst 4 (xs.map Tn.av),.lst 1 (modes.map i64)] (.tup [(if modes.length≠(aK l).length then Aq.mk [] [] []else if R.2≠0 then Aq.mk [] [] []else R.1.getD 0 (Aq.mk [] [] [])).av,bm (if modes.length≠(aK l).length then 10 else if R.2≠0 then R.2 else if R.1=[]then 16 else 0)]):=by
 rw[h0]at hop;have hop:Con prog 99 [l.av,.lst 4 (xs.map Tn.av)] [] (.tup [.ptr 900 0,.v .nilIface]) [(900,some (.box (fc l xs (aK l) 189 [] false (nS))))]:=hop;refine af func45 ?_;refine gt (aJ hop (bA rfl rfl) aM rfl rfl) ?_;refine gC (fun t18=>?_) (fun t18=>?_) (st1:=(3,0)) (st2:=(77777,0));cases t18;refine gW (Wk.o (sl:=[(5,some (.ptr 5 0)),(6,some (.ptr 6 0)),(8,some (.ptr 900 0))]) (hp:=[(5,some (.box [.lst 1 (modes.map i64)])),(6,some (.box [nS,nS,nS])),(900,some (.box (fc l xs (aK l) 189 [] false (nS))))])) ?_ (77777,0);refine gW (Wk.rk (k:=900) (d:=902) rfl rfl) ?_;refine gl ?_;refine gl ?_;refine gD ?_;refine gC (fun t28=>?_) (fun t28=>?_) (st2:=(77777,0))
 ·have h1:=qr t28;refine gR ?_;exact bw (by rw[VQ h1,VQ h1];exact Sub.tup (.cons (Sub.agg (.cons (.nil _ _ _) (.cons (.nil _ _ _) (.cons (.nil _ _ _) .nil))) rfl) (.cons (.refl _) .nil)))
 have h1:=qQ t28;have hm:¬(modes.length≠(aK l).length):=fun h=>h h1
 refine gW ((Wk.freezeB (k:=5) rfl rfl).trans<|Wk.o (sl:=[(5,some (.iptr [.lst 1 (modes.map i64)])),(6,some (.ptr 6 0)),(8,some (.ptr 902 0))]) (hp:=[(6,some (.box [nS,nS,nS])),(902,some (.box (fc l xs (aK l) 189 [] false (nS))))])) ?_ (7,0);refine gW (Wk.of (sl:=[(6,some (.ptr 6 0)),(8,some (.ptr 902 0))]) (hp:=[(6,some (.box [nS,nS,nS])),(902,some (.box (fc l xs (aK l) 111 [.iptr [.lst 1 (modes.map i64)]] true (nS))))]) aR (.k (.cons rfl (BlkSub.bL (.cons (.refl _) (.cons (.refl _) (.cons (.refl _) (.cons (.refl _) (.cons (.refl _) (.cons (.refl _) (.cons (uq rfl) (.cons (.refl _) (.cons (.refl _) .nil))))))))) rfl) .nil))) ?_ (7,0)
 refine gW (Wk.virt 901 3 rfl) ?_ (7,0);refine gW (Wk.of (sl:=[(6,some (.ptr 6 0)),(8,some (.ptr 902 0))]) (hp:=(6,some (.box [nS,nS,nS]))::pR l xs (aK l) 111 [.iptr [.lst 1 (modes.map i64)]] true 902 901 []) (.k (.k .nil)) (.k (.cons rfl (BlkSub.bL (.cons (.refl _) (.cons (.refl _) (.cons (.refl _) (.cons (.refl _) (.cons (.refl _) (.cons (.refl _) (.cons (.refl _) (.cons (.refl _) (.cons (Sub.nM _ _ _) .nil))))))))) rfl) (.k .nil)))) ?_
 refine gt (BT (Iy hb hl) (cG rfl) rfl rfl rfl rfl rfl) ?_;refine gt (aJ (G7 (hw h1)) (bA rfl rfl) aM rfl rfl) ?_;refine gC (fun t43=>?_) (fun t43=>?_) (st2:=(77777,0))
 ·have hE:=de t43;refine gR ?_;exact bw (by rw[VP hm,VP hm,VQ hE,VQ hE];exact Sub.tup (.cons (Sub.agg (.cons (.nil _ _ _) (.cons (.nil _ _ _) (.cons (.nil _ _ _) .nil))) rfl) (.cons (.refl _) .nil)))
 have hE:=cR t43;have hE':¬(R.2≠0):=fun h=>h hE
 refine gW ((Wk.freeze (k:=900) rfl).trans<|Wk.of (sl:=[(6,some (.ptr 6 0)),(8,some (.ptr 902 0))]) (hp:=[(6,some (.box [nS,nS,nS])),(902,some (.box (fc l xs (aK l) 111 [.iptr [.lst 1 (modes.map i64)]] true (.lst 3 (R.1.map Aq.av)))))]) aR (.k (.cons rfl (BlkSub.bL (.cons (.refl _) (.cons (.refl _) (.cons (.refl _) (.cons (.refl _) (.cons (.refl _) (.cons (.refl _) (.cons (.refl _) (.cons (.refl _) (.cons (Sub.of (bD rfl)) .nil))))))))) rfl) .nil))) ?_
 refine gl ?_;refine gC (fun t51=>?_) (fun t51=>?_)
 ·have h2 : R.1=[] := List.length_eq_zero_iff.1 (by simpa[aa]using t51);refine gR ?_;exact bw (by rw[VP hm,VP hm,VP hE',VP hE',VQ h2,h2];exact Sub.tup (.cons (Sub.agg (.cons (.nil _ _ _) (.cons (.nil _ _ _) (.cons (.nil _ _ _) .nil))) rfl) (.cons (.refl _) .nil)))
 have h2:R.1≠[]:=fun h=>by rw[h]at t51;exact absurd t51 (by simp[aa])
 obtain⟨a0,ha0⟩:=az (l:=R.1) (i:=0) (by cases hh:R.1 with |nil=>exact absurd hh h2 |cons _ _=>simp);refine gi (ay ha0) ?_;refine gR ?_;exact bw (Sub.of (by rw[VP hm,VP hm,VP hE',VP hE',VP h2,aO ha0];rfl))
theorem Qk{a b:List Rat}{n:Nat}(ha:a.length=n)(hb:b.length=n):a++b=dt a b n:=by
 unfold dt aS;rw[ha,hb,Nat.sub_self];simp
theorem PG{ts:LL}{j e:Nat}{a:List Rat}{q:Rat}(h5:j<=5)(ha:Nl j a)(ca:Cb e a)(he:e<4398046511104)(hs:sh j (ad j a)=[q])(hq:q≠0) :
  FP 410 [an ts,nA a] (nA [1/q]):=by
 have cs:=ca.sh ha;rw[hs]at cs;have qq:Qs q:=cs.qs he (by simp);have hsh:=kt a h5 ha;rw[hs]at hsh;have hdv:=Dp (rt 1) (rt q) (Qb.one.qs oz).ok qq.ok;rw[bt,bt,VP hq]at hdv;refine af func410 ?_;refine gc hsh ?_;refine gl ?_;refine gC (fun t16=>?_) (fun t16=>?_) (st2:=(77777,0))
 ·refine gc (lg 1 oz) ?_;refine gi rfl ?_;refine gc hdv ?_;refine gD ?_;refine ae ?_;rfl
 cases t16
theorem Ot{ts:LL}{m r:Nat}(ht:fQ ts m r)(hp:sM (aj ts) m)(hm:m<=5)(hml:m<=ts.length){j e i:Nat}{a s L:List Rat}(h5:j<=5)(ha:Nl j a)(ca:Cb e a)(he:4*e+3*eB r i+r+1<4398046511104)(hs:sh j (ad j a)=s)(hi:i+1<=m)
  (hsl:s.length=2^(i+1)) (hb:sB r i (4*e+3*eB r i+r+1)<4398046511104) (h0:T.sgn (aj ts) i (ad i (j4 ts i s))=0)
  (hL:FP 410 [an ts,nA (bR (s.take (2^i)) (s.take (2^i)))] (nA L)):FP 410 [an ts,nA a] (nA L):=by
 have cs:=ca.sh ha;have hsh:=kt a h5 ha;rw[hs]at cs hsh;have hp2:=Nat.two_pow_pos i;have hpi:2^i<=32:=bT (b:=5) oz;have hps:2^(i+1)=2*2^i:=by rw[Nat.pow_succ];omega
 obtain⟨nn,dn,cn⟩:=vo hm ht oz hsl cs;have hR:∀z,z<m->(ts.map nA)[z]?=some (nA (ts.getD z [])):=fun z hz=>jX oz
 have k4:=nT ts m r ht hm hp (ts.map nA) hR i _ _ oz nn cn hb;have qs:∀q∈s.take (2^i),Qs q:=fun q hq=>cs.take.qs oz hq
 refine af func410 ?_;refine gc hsh ?_;refine gl ?_;refine gC (fun t16=>?_) (fun t16=>?_) (st1:=(4,0));exact absurd t16 (by simp only[aa,beq_iff_eq];omega);refine gs (dS (.tmp rfl) (.const _) oz (show _=((2^i:Nat):Int) by rw[eF oz,hsl,d8]) rfl) ?_;refine gs (cz (.tmp rfl) (.none _) (.some _ (.tmp rfl) oz) T67 rfl T45 rfl oz (by simp only[length_map];omega) rfl) ?_;refine gs (dS (.tmp rfl) (.const _) oz (show _=((2^i:Nat):Int) by rw[eF oz,hsl,d8]) rfl) ?_;refine gs (cz (.tmp rfl) (.some _ (.tmp rfl) oz) (.none _) T67 rfl T45 rfl (by simp only[length_map];omega) oz rfl) ?_;refine gD ?_ (7,0);refine gW (Wk.of (sl:=[(1,some (nA s)),(2,some (.ptr 2 0)),(5,some (i64 s.length)),(8,some (nA (s.take (2^i)))),(9,some (nA (s.drop (2^i))))]) (hp:=[(2,some (.box [.lst 1 (ts.map nA)]))]) (.k (.k (.k (.cons rfl (Sub.of (jI s (2^i))) (.cons rfl (Sub.of (jP s (2^i))) .nil))))) (.k .nil)) ?_;refine gc (A7 ts m r ht hm (ts.map nA) hR i s.length s e oz hsl hsl cs oz) ?_;refine gc k4 ?_;refine gC (fun t42=>?_) (fun t42=>?_) (st2:=(77777,0))
 ·refine gc (ou _ _ qs qs (by simp;omega) (by simp;omega)) ?_;refine gc hL ?_;refine gD ?_;refine ae ?_;rfl
 exact absurd t42 (by rw[h0];decide)
theorem Pc{ts:LL}{m r:Nat}(ht:fQ ts m r)(hp:sM (aj ts) m)(hm:m<=5)(hml:m<=ts.length){j e f i:Nat}{a s L:List Rat}(h5:j<=5)(ha:Nl j a)(ca:Cb e a)(he:4*e+3*eB r i+r+1<4398046511104)(hs:sh j (ad j a)=s)(hi:i+1<=m)
  (hsl:s.length=2^(i+1)) (hb:sB r i (4*e+3*eB r i+r+1)<4398046511104) (h0:T.sgn (aj ts) i (ad i (j4 ts i s))≠0)
  (hL:FP 410 [an ts,nA (j4 ts i s)] (nA L)) (nL:Nl i L) (cL:Cb f L) (hf:e+f+eB r (i+1)<4398046511104) :
  FP 410 [an ts,nA a] (nA (rT ts (i+1) (dt (s.take (2^i)) (co (s.drop (2^i))) (2^i)) L)):=by
 have cs:=ca.sh ha;have hsh:=kt a h5 ha;rw[hs]at cs hsh;have hp2:=Nat.two_pow_pos i;have hpi:2^i<=32:=bT (b:=5) oz;have hps:2^(i+1)=2*2^i:=by rw[Nat.pow_succ];omega
 obtain⟨nn,dn,cn⟩:=vo hm ht oz hsl cs;have hR:∀z,z<m->(ts.map nA)[z]?=some (nA (ts.getD z [])):=fun z hz=>jX oz
 have k4:=nT ts m r ht hm hp (ts.map nA) hR i _ _ oz nn cn hb;have qy:∀q∈s.drop (2^i),Qs q:=fun q hq=>cs.drop.qs oz hq
 have lx:(s.take (2^i)).length=2^i:=eY hsl;have ly:(s.drop (2^i)).length=2^i:=ft hsl;have nj:Nl (i+1) (dt (s.take (2^i)) (co (s.drop (2^i))) (2^i)):=.inr ⟨i+1,le_refl _,by rw[l8 oz (by rw[fE];omega)];omega⟩;have cj:Cb e (dt (s.take (2^i)) (co (s.drop (2^i))) (2^i)):=xx cs;have hti:=pJ ts m r ht hm (ts.map nA) hR (i+1) (i+1) _ _ e f hi (le_refl _) nj (nL.mono oz) cj cL hf;rw[<- Qk lx (by rw[fE];exact ly)]at hti ⊢;refine af func410 ?_;refine gc hsh ?_;refine gl ?_;refine gC (fun t16=>?_) (fun t16=>?_) (st1:=(4,0));exact absurd t16 (by simp only[aa,beq_iff_eq];omega);refine gs (dS (.tmp rfl) (.const _) oz (show _=((2^i:Nat):Int) by rw[eF oz,hsl,d8]) rfl) ?_;refine gs (cz (.tmp rfl) (.none _) (.some _ (.tmp rfl) oz) T67 rfl T45 rfl oz (by simp only[length_map];omega) rfl) ?_;refine gs (dS (.tmp rfl) (.const _) oz (show _=((2^i:Nat):Int) by rw[eF oz,hsl,d8]) rfl) ?_;refine gs (cz (.tmp rfl) (.some _ (.tmp rfl) oz) (.none _) T67 rfl T45 rfl (by simp only[length_map];omega) oz rfl) ?_;refine gD ?_ (7,0);refine gW (Wk.of (sl:=[(1,some (nA s)),(2,some (.ptr 2 0)),(5,some (i64 s.length)),(8,some (nA (s.take (2^i)))),(9,some (nA (s.drop (2^i))))]) (hp:=[(2,some (.box [.lst 1 (ts.map nA)]))]) (.k (.k (.k (.cons rfl (Sub.of (jI s (2^i))) (.cons rfl (Sub.of (jP s (2^i))) .nil))))) (.k .nil)) ?_;refine gc (A7 ts m r ht hm (ts.map nA) hR i s.length s e oz hsl hsl cs oz) ?_;refine gc k4 ?_;refine gC (fun t42=>?_) (fun t42=>?_) (st1:=(9,0));exact absurd t42 (by simp only[aa,beq_iff_eq];omega);refine gs (gf T67 rfl T45 rfl rfl rfl) ?_;refine gs (bO (.tmp rfl) rfl rfl (.tmp rfl) T67 rfl T45 rfl rfl (by dsimp only;rw[length_map];omega) rfl rfl) ?_;refine gc (u6 _ qy oz) ?_;refine gs (lS (.tmp rfl) rfl (by simp) (.tmp rfl) T67 rfl T45 rfl rfl (by dsimp only;rw[length_map,length_map,fE];omega) rfl rfl) ?_;refine gc hL ?_;refine gc (by have h9:=hti;unfold nA at h9;rw[map_append]at h9;exact h9) ?_;refine gD ?_;refine ae ?_;rfl
theorem Kv{ts:LL}{m r:Nat}(ht:fQ ts m r)(hp:sM (aj ts) m)(hm:m<=5)(hml:m<=ts.length)(j:Nat):∀(a:List Rat)(e:Nat),j<=m->Nl j a->Cb e a->T.sgn (aj ts) j (ad j a)≠0 ->
  sB r j e<4398046511104->iB r j e<4398046511104->∃L,FP 410 [an ts,nA a] (nA L)/\Nl j L/\Cb (iB r j e) L/\ad j L=T.inv (aj ts) j (ad j a):=by
 induction j using Nat.strongRecOn
 rename_i j ih;intro a e hj ha ca h0 hs hi;have hse:=mi r j e;have cs:=ca.sh ha;have hsn:=eg j (ad j a);have hsd:=bq j (ad j a);have hle:=pa r j e;obtain⟨s,hsa⟩:∃s,sh j (ad j a)=s:=⟨_,rfl⟩
 rcases nf hsn with h |h |⟨i,hij,h⟩
 ·exfalso;have h1:=List.length_eq_zero_iff.1 h;rw[h1,iN]at hsd;rw[<- hsd,T.sgn_zero]at h0;exact h0 rfl
 ·obtain ⟨q, hq⟩:=List.length_eq_one_iff.1 h;rw [hq,kR] at hsd;rw [<- hsd,T.sgn_ofQ] at h0;have q0:q ≠ 0:=by rintro rfl; exact h0 rfl
  refine⟨[1/q],PG oz ha ca oz hq q0,.inr ⟨0,by omega,rfl⟩,(Cb.inv1 (hq▸cs) q0).mono hle,?_⟩;rw[<- hsd,<- kR j q];exact mW (aj ts) (i:=0) (s:=[q]) (L:=[1/q]) (by simp) (by simp) rfl oz
 ·have hz:=Bx h hij;rw [hsa] at h cs hsd hsn hz;obtain ⟨nn,dn,cn⟩:=vo hm ht oz h cs;have hsl:s.length <= 2 ^ (i + 1):=by omega
  have b1:sB r i (4*e+3*eB r i+r+1)<=sB r j e:=pV r e hij;have b2:=mi r i (4*e+3*eB r i+r+1);have b3:iB r (i+1) e<=iB r j e:=xb r e hij;have b4:iB r (i+1) e=e+iB r i (4*e+3*eB r i+r+1)+eB r (i+1):=rfl;have lx:(s.take (2^i)).length=2^i:=eY h;have ly:(s.drop (2^i)).length=2^i:=ft h;have hpi:2^i<=2^(i+1):=Nat.pow_le_pow_right oz oz;rw[<- hsd]at h0 ⊢
  by_cases hN:T.sgn (aj ts) i (ad i (j4 ts i s))=0
  ·have hS:=mu (aj ts) i (fun k hk=>hp k oz)
   have hx:T.sgn (aj ts) i (ad i (bR (s.take (2^i)) (s.take (2^i))))≠0:=by
    rw[gk];rw[om (aj ts) hsl hij]at h0;rw[dn]at hN;exact Ei hS (hp i oz) (x:=ad i (s.take (2^i))) (y:=ad i (s.drop (2^i))) h0 hN
   have np:Nl i (bR (s.take (2^i)) (s.take (2^i))):=.inr ⟨i,le_refl _,by rw[dP];omega⟩;have b5:=mz r i (e:=e+e+1) (f:=4*e+3*eB r i+r+1) oz;have b6:=tB r i (e:=e+e+1) (f:=4*e+3*eB r i+r+1) oz;obtain⟨L,k1,k2,k3,k4⟩:=ih i oz _ _ oz np (cs.take.plus cs.take) hx oz oz;refine⟨L,Ot ht hp hm hml oz ha ca oz hsa oz h oz hN k1,k2.mono oz,k3.mono oz,?_⟩;refine mW (aj ts) (i:=i+1) hsl (le_trans k2.le hpi) ?_ hij;rw[Fh (aj ts) hz (by rw[<- dn];exact hN),fV k2.le,k4,gk];rfl
  ·obtain⟨L,k1,k2,k3,k4⟩:=ih i oz _ _ oz nn cn hN oz oz;have nj:Nl (i+1) (dt (s.take (2^i)) (co (s.drop (2^i))) (2^i)):=.inr ⟨i+1,le_refl _,by rw[l8 oz (by rw[fE];omega),Nat.pow_succ];omega⟩;have s1:=iy hm ht (k:=i+1) (show i+1<=m by omega) (le_refl _) nj (k2.mono oz) (xx cs) k3;refine⟨_,Pc ht hp hm hml oz ha ca oz hsa oz h oz hN k1 k2 k3 oz,s1.1.mono hij,s1.2.2.mono oz,?_⟩;refine mW (aj ts) (i:=i+1) hsl s1.1.le ?_ hij;rw[D6 (aj ts) hz (by rw[<- dn];exact hN),s1.2.1,sE oz,fV k2.le,mul_low,lB,k4,dn];rfl
theorem IR{ts:LL}{r f j:Nat}(tw:Tw ts r){b:List Rat}(hb:Nm ts.length f b)(hj:j<=ts.length)(nb:Nl j b)(h0:T.sgn (aj ts) ts.length (ad ts.length b)≠0)(hf:f<=lm ts.length)(hi:iB r j f<4398046511104) :
  ∃L,FP 410 [an ts,nA b] (nA L)/\Nl ts.length L/\Cb (iB r j f) L/\ad ts.length L=T.inv (aj ts) ts.length (ad ts.length b):=by
 rw[om (aj ts) nb.le hj]at h0;obtain⟨L,k1,k2,k3,k4⟩:=Kv tw.ok tw.pos tw.five (le_refl _) j b f hj nb hb.cb h0 (ke hj tw.three tw.le hf) hi;exact⟨L,k1,k2.mono hj,k3,mW (aj ts) nb.le k2.le k4 hj⟩
theorem LJ{ts:LL}{r e f:Nat}(tw:Tw ts r){a b:List Rat}(ha:Nm ts.length e a)(hb:Nm ts.length f b)(he:e<=4398046511103)(hf:f<=4398046511103):FP 169 [an ts,.lst 1 [nA a,nA b]] (i64 0):=by
 have hck:=mv (ts.map (List.map rt)) r tw.tr [a.map rt,b.map rt] (lV (oE ha he) (oE hb hf)) (by simp);have hc0:aZ (ts.map (List.map rt)) [a.map rt,b.map rt]=0:=lG tw ha hb;rw[hc0,gn]at hck;rw[show[nA a,nA b]=[a.map rt,b.map rt].map nR by simp[dc]];exact hck
theorem Di{ts:LL}{r e:Nat}(tw:Tw ts r){a:List Rat}(ha:Nm ts.length e a)(he:e<=4398046511103):FP 169 [an ts,.lst 1 [nA a]] (i64 0):=by
 have hck:=mv (ts.map (List.map rt)) r tw.tr [a.map rt] (fun x hx=>by rw[List.mem_singleton.1 hx];exact⟨(oE ha he).ok,(oE ha he).len⟩) (by simp);have hc0:aZ (ts.map (List.map rt)) [a.map rt]=0:=tD tw ha;rw[hc0,gn]at hck;rw[show[nA a]=[a.map rt].map nR by simp[dc]];exact hck
theorem Oh{ts:LL}{r f j:Nat}(tw:Tw ts r){b:List Rat}(hb:Nm ts.length f b)(hj:j<=ts.length)(nb:Nl j b)(h0:T.sgn (aj ts) ts.length (ad ts.length b)≠0)(hf:f<=lm ts.length)(hi:iB r j f<=200000000000) :
  FP 394 [an ts,nA b] (.tup [nA (sh ts.length (T.inv (aj ts) ts.length (ad ts.length b))),i64 0]):=by
 have hlm:=fg ts.length;have h5:=tw.five;have hfe:=pa r j f;have hR:∀z,z<ts.length->(ts.map nA)[z]?=some (nA (ts.getD z [])):=fun z hz=>jX oz
 have hsB:=ke (le_refl ts.length) tw.three tw.le hf;have hsg:=nT ts ts.length r tw.ok h5 tw.pos (ts.map nA) hR ts.length _ _ (le_refl _) hb.nl hb.cb hsB;obtain⟨L,k1,k2,k3,k4⟩:=IR tw hb hj nb h0 hf oz;have hsh:=kt L h5 k2;rw[k4]at hsh;refine af func394 ?_;refine gc (Di tw hb oz) ?_;refine gC (fun t12=>?_) (fun t12=>?_) (st1:=(3,0));cases t12;refine gc hsg ?_;refine gC (fun t17=>?_) (fun t17=>?_) (st1:=(5,0));exact absurd t17 (by simp only[aa,beq_iff_eq];omega);refine gc k1 ?_;refine gc hsh ?_;refine bf ?_;rfl
theorem N7{ts:LL}{r f j:Nat}(tw:Tw ts r){b:List Rat}(hb:Nm ts.length f b)(hj:j<=ts.length)(nb:Nl j b)(h0:T.sgn (aj ts) ts.length (ad ts.length b)≠0)(hf:f<=lm ts.length)(hi:iB r j f<=200000000000) :
  Nm ts.length (iB r j f) (sh ts.length (T.inv (aj ts) ts.length (ad ts.length b))):=by
 obtain⟨L,k1,k2,k3,k4⟩:=IR tw hb hj nb h0 hf oz;refine⟨tw.five,eg _ _,?_⟩;rw[<- k4];exact k3.sh k2
theorem Tg{ts:LL}{r e f j:Nat}(tw:Tw ts r){a b:List Rat}(ha:Nm ts.length e a)(hb:Nm ts.length f b)(hj:j<=ts.length)(nb:Nl j b)(h0:T.sgn (aj ts) ts.length (ad ts.length b)≠0)(hf:f<=lm ts.length)(he:e+iB r j f+eB r ts.length<=200000000000) :
  FP 367 [an ts,nA a,nA b] (.tup [nA (sh ts.length (T.mul (aj ts) ts.length (ad ts.length a) (T.inv (aj ts) ts.length (ad ts.length b)))),i64 0]):=by
 have hlm:=fg ts.length;have h5:=tw.five;have hfe:=pa r j f;have hR:∀z,z<ts.length->(ts.map nA)[z]?=some (nA (ts.getD z [])):=fun z hz=>jX oz
 have k:=N7 tw hb hj nb h0 hf oz;have hti:=pJ ts ts.length r tw.ok h5 (ts.map nA) hR ts.length ts.length _ _ _ _ (le_refl _) (le_refl _) ha.nl k.nl ha.cb k.cb oz;have s1:=iy h5 tw.ok (k:=ts.length) (le_refl ts.length) (le_refl _) ha.nl k.nl ha.cb k.cb;have hsh:=kt _ h5 s1.1;rw[s1.2.1,bq]at hsh;refine af func367 ?_;refine gc (LJ tw ha hb oz oz) ?_;refine gC (fun t17=>?_) (fun t17=>?_) (st1:=(3,0));cases t17;refine gc (Oh tw hb hj nb h0 hf oz) ?_;refine gC (fun t26=>?_) (fun t26=>?_) (st1:=(6,0));cases t26;refine gc hti ?_;refine gc hsh ?_;refine bf ?_;rfl
theorem yb{ts:LL}{r e f j:Nat}(tw:Tw ts r){a b:List Rat}(ha:Nm ts.length e a)(hb:Nm ts.length f b)(hj:j<=ts.length)(nb:Nl j b)(h0:T.sgn (aj ts) ts.length (ad ts.length b)≠0)(hf:f<=lm ts.length)(he:e+iB r j f+eB r ts.length<=200000000000) :
  FP 308 [an ts,nA a,nA b] (nA (sh ts.length (T.mul (aj ts) ts.length (ad ts.length a) (T.inv (aj ts) ts.length (ad ts.length b))))):=by
 refine af func308 ?_;refine gc (Tg tw ha hb hj nb h0 hf he) ?_;refine ae ?_;rfl
theorem JV{ts:LL}{r e:Nat}(tw:Tw ts r){a b c:List Rat}(ha:Nm ts.length e a)(hb:Nm ts.length e b)(hc:Nm ts.length e c)(he:2*e<=lm ts.length) :
  FP 306 [an ts,nA a,ao b c] (ao (sh ts.length (T.mul (aj ts) ts.length (ad ts.length a) (ad ts.length b))) (sh ts.length (T.mul (aj ts) ts.length (ad ts.length a) (ad ts.length c)))):=by
 refine af func306 ?_;refine gc (jT tw ha hb oz) ?_;refine gc (jT tw ha hc oz) ?_;refine gD ?_;refine ae ?_;rfl
def ym(g:Gr)(j:Jt)(q:Nat):Int:=if q=0 then -1 else if q=1 then(if g.bo.contains j.b=true then -1 else j.b)else iu g j
theorem Ho{g:Gr}{j:Jt}{q:Nat}{b:Int}(hb:[j.b,j.a][q]?=some b):(if g.bo.contains b=true then ym g j q else b)=ym g j (q+1):=by
 match q,hb with
 |0,hb=>cases hb;rfl
 |1,hb =>
  cases hb;show(if g.bo.contains j.a=true then(if g.bo.contains j.b=true then -1 else j.b)else j.a)=iu g j;rfl
theorem Rv{xs:List Int}{p:Nat}{x b:Int}(h:xs[p]?=some x):cond ((xs.take p).contains b) true (aa .eql x b)=(xs.take (p+1)).contains b:=by
 rw[cD h,io,lR,List.contains_eq_any_beq,List.contains_eq_any_beq,List.any_append,List.any_cons,List.any_nil,Bool.or_false];congr 1
 by_cases h1:x=b
 ·subst h1;simp
 ·rw[decide_eq_false h1]
  symm
  exact beq_false_of_ne (fun e=>h1 e.symm)
theorem Tx(l:Li)(hl:l.ok)(g:Gr)(hg:GrOk l g):FP 299 [l.av,g.av] (.tup [.lst 1 ((cw l g).map i64),i64 0]):=by
 have hlb:=hg.lb;have hlj:=hg.lj;have hjl:=hl.lj;refine af func299 ?_;refine gl ?_;refine aN [2,3,18,19] [2,3] (fun(i:Nat)=>[(20,some (i64 i))]) (fun _=>[]) (fun i=>i<=g.jo.length) (fun i=>g.jo.length-i) 0 (zero_le _) ?_;rintro i hi K1 J1;refine gC (fun t21=>?_) (fun t21=>?_)
 ·have hin:=aT t21;obtain⟨z,hz⟩:=az hin;obtain⟨z0,z1⟩:=hg.j z (mem_of_getElem? hz);refine gi (ay hz) ?_;refine bS ?_;refine gC (fun t32=>?_) (fun t32=>?_) (st1:=(5,0))
  ·(rw[Hv z0 z1]at t32;cases t32)
  refine ga aE ?_;exact aH J1 (i+1) hin
 have hin:=a8 hi t21;refine gl ?_;refine gW ((Wk.virt 900 1 rfl).trans<|Wk.of (sl:=[(2,some (.ptr 2 0)),(3,some (.ptr 3 0)),(8,some (.ms 900 1 0 0)),(35,some (.lst 1 (g.jo.map i64))),(36,some (i64 g.jo.length)),(37,some (i64 0))]) (hp:=[(2,some (.box l.av.cells)),(3,some (.box g.av.cells)),(900,some (.row 1 []))]) (.k (.k (.cons rfl (Sub.nM _ _ _) (.k (.k (.k .nil)))))) (.k (.k (.k .nil)))) ?_;refine aN [2,3,35,36] [2,3] (fun(k:Nat)=>[(8,some (.ms 900 1 0 k)),(37,some (i64 k))]) (fun k=>[(900,some (.row 1 (((cw l g).take k).map i64)))]) (fun k=>k<=g.jo.length) (fun k=>g.jo.length-k) 0 (zero_le _) ?_;rintro k hk K2 J2;refine gC (fun t38=>?_) (fun t38=>?_) (st2:=(26,0))
 ·have hkn:=aT t38;obtain ⟨z,hz⟩:=az hkn;obtain ⟨z0,z1⟩:=hg.j z (mem_of_getElem? hz);obtain ⟨j,hj⟩:∃ j,l.jo[z.toNat]? = some j:=az oz;have hlt:(((cw l g).take k).map i64).length = k:=by rw [length_map,length_take,kN]; omega
  refine gi (ay hz) ?_;refine gi (dg (n:=z.toNat) oz hj) ?_;refine gi (dg (n:=z.toNat) oz hj) ?_;refine ge rfl ?_;refine gD ?_;refine aN [2,3,35,36,37,53,54] [2,3] (fun(q:Nat)=>[(8,some (.ms 900 1 0 k)),(11,some (i64 (ym g j q))),(55,some (i64 q))]) (fun _=>[(900,some (.row 1 (((cw l g).take k).map i64)))]) (fun q=>q<=2) (fun q=>2-q) 0 (zero_le _) ?_;rintro q hq K3 J3;refine gC (fun t56=>?_) (fun t56=>?_)
  ·have hqn:q < 2:=aT (b:=2) t56;obtain ⟨b,hb⟩:∃ b,[j.b,j.a][q]? = some b:=az hqn;refine gi (show [i64 j.b,i64 j.a][(q:Int).toNat]? = some (i64 b) by have:=ay (f:=i64) hb; exact this) ?_;refine gl ?_;refine aN [2,3,35,36,37,53,54,11,55,13,60,61] [2,3,900] (fun (p:Nat)=>[(8,some (.ms 900 1 0 k)),(14,some (bl ((g.bo.take p).contains b))),(62,some (i64 p))]) (fun _=>[]) (fun p=>p <= g.bo.length) (fun p=>g.bo.length - p) 0 (zero_le _) ?_;rintro p hp K4 J4;refine gC (fun t63=>?_) (fun t63=>?_)
   ·have hpn:=aT t63;obtain⟨x,hx⟩:=az hpn;refine gi (ay hx) ?_;refine ga aE ?_;exact aH J4 (p+1) hpn (hw:=Wk.of (.k (.cons rfl (Sub.of (congrArg bl (Rv hx))) (.k (.k (.k (.k (.k (.k (.k (.k (.k (.k (.k (.k (.k .nil))))))))))))))) (.k (.k (.k .nil))))
   have hpn:=a8 hp t63;subst hpn;have hall:g.bo.take g.bo.length=g.bo:=take_length;refine gC (fun t74=>?_) (fun t74=>?_)
   ·have h2 : g.bo.contains b = false := by rw [hall] at t74; exact di t74
    have h3:=Ho (g:=g) hb;rw[VP (by rw[h2];simp)]at h3;refine ga aE ?_;exact aH J3 (q+1) hqn (hw:=Wk.of (.k (.cons rfl (Sub.of (congrArg i64 h3)) (.k (.k (.k (.k (.k (.k (.k (.k .nil)))))))))) (.k (.k (.k .nil))))
   have h2:g.bo.contains b=true:=by rw[hall]at t74;exact dr t74
   have h3:=Ho (g:=g) hb;rw[VQ h2]at h3;refine ga aE ?_;exact aH J3 (q+1) hqn (hw:=Wk.of (.k (.cons rfl (Sub.of (congrArg i64 h3)) (.k (.k (.k (.k (.k (.k (.k (.k .nil)))))))))) (.k (.k (.k .nil))))
  have hqn:q=2:=a8 (b:=2) hq t56;subst hqn;refine gs (bO (.tmp rfl) rfl hlt.symm (.tmp rfl) T39 rfl T3 rfl rfl (by simp only[length_cons,length_nil];omega) rfl rfl) ?_ (25,0);refine gW (Wk.of (sl:=[(2,some (.ptr 2 0)),(3,some (.ptr 3 0)),(8,some (.ms 80 1 0 (k+1))),(35,some (.lst 1 (g.jo.map i64))),(36,some (i64 g.jo.length)),(37,some (i64 k))]) (hp:=[(2,some (.box l.av.cells)),(3,some (.box g.av.cells)),(80,some (.row 1 (((cw l g).take (k+1)).map i64)))]) aR (.k (.k (.cons rfl (BlkSub.of (congrArg (Blk.row 1) (wj hz hj rfl))) .nil)))) ?_ (25,0);refine gW (Wk.rk (k:=80) (d:=900) rfl rfl) ?_;refine ga aE ?_;exact aH J2 (k+1) hkn
 have hkn:=a8 hk t38;subst hkn;refine gW (Wk.of (sl:=[(8,some (.ms 900 1 0 g.jo.length))]) (hp:=[(900,some (.row 1 ((cw l g).map i64)))]) aR (.cons rfl (BlkSub.of (by rw[take_of_length_le (by rw[kN];exact le_refl _)])) .nil)) ?_ (26,0);refine gW ((Wk.freeze (k:=900) rfl).trans (Wk.of (sl:=[(8,some (.lst 1 ((cw l g).map i64)))]) (hp:=[]) (.cons rfl (Sub.of (bD (by rw[length_map,kN]))) .nil) .nil)) ?_;refine bf ?_
 first |rfl |(simp;done)
theorem Qh:FP 42 [.v .nilIface] (i64 0):=by
 refine af func42 ?_;refine gC (fun t6=>?_) (fun t6=>?_) (st2:=(77777,0))
 ·refine ae ?_
  first |rfl |(simp;done)
 cases t6
theorem NA(n:Int):FP 42 [.v (.iface 60 (.int .i64 n))] (i64 n):=by
 refine af func42 ?_;refine gC (fun t6=>?_) (fun t6=>?_) (st1:=(2,0));cases t6;refine gs (SQ (.tmp rfl) T60 rfl rfl) ?_;refine gC (fun t13=>?_) (fun t13=>?_) (st1:=(5,0));cases t13;refine ae ?_;rfl
theorem Nc(e:Nat):FP 42 [bm e] (i64 e):=by
 cases e with
 |zero=>exact Qh
 |succ e=>exact NA _
theorem VC{a:As}(h:AL a)(hc:bc a.rs=0):8*4000+4*kB 40000 a.rs.length+4<=lm a.rs.length:=by
 obtain⟨tw,_⟩:=bN h.tr hc;have h3:=tw.three;rw[A0]at h3;have h1:=F9 40000 h3;have h2:=ju a.rs.length;show 8*4000+4*eB 40000 a.rs.length+4<=_;omega
def jw(a:As)(k:Int):Nat :=
  if bc a.rs≠0 then bc a.rs else if k<0\/(a.bs.length:Int)<=k then 9 else aZ a.rs (a.bs.getD k.toNat default).l
theorem yy{a:As}{k:Int}(h:bc a.rs≠0):jw a k=bc a.rs:=by unfold jw;rw[VQ h]
theorem ye{a:As}{k:Int}(h:bc a.rs=0)(hk:k<0\/(a.bs.length:Int)<=k):jw a k=9:=by unfold jw;rw[VP oz,VQ hk]
theorem yT{a:As}{i:Nat}{b:Pl}(h:bc a.rs=0)(hb:a.bs[i]?=some b):jw a (i:Int)=aZ a.rs b.l:=by
 have hi:=(List.getElem?_eq_some_iff.1 hb).1;unfold jw;rw[VP oz,VP oz,toNat_natCast,aO hb]
theorem In(x y:List Rat)(hx:x=[])(hy:y=[]):Sub (.agg [nS,nS]) (ao x y):=by
 subst hx;subst hy
 exact Sub.agg (.cons (.nil _ _ _) (.cons (.nil _ _ _) .nil)) rfl
def q7(a:As)(k:Int)(x y:Rt):List Rat:=if jw a k=0 then Ba a.rs (a.bs.getD k.toNat default) x y else[]
def q6(a:As)(k:Int)(x y:Rt):List Rat:=if jw a k=0 then zf a.rs (a.bs.getD k.toNat default) x y else[]
theorem Dm{a:As}{k:Int}{x y:Rt}(h:jw a k≠0):q7 a k x y=[]:=VP h
theorem Ft{a:As}{k:Int}{x y:Rt}(h:jw a k≠0):q6 a k x y=[]:=VP h
theorem PH{a:As}{i:Nat}{b:Pl}{x y:Rt}(h:bc a.rs=0)(hb:a.bs[i]?=some b):q7 a i x y=if aZ a.rs b.l=0 then Ba a.rs b x y else[]:=by unfold q7;rw[yT h hb,toNat_natCast,aO hb]
theorem L2{a:As}{i:Nat}{b:Pl}{x y:Rt}(h:bc a.rs=0)(hb:a.bs[i]?=some b):q6 a i x y=if aZ a.rs b.l=0 then zf a.rs b x y else[]:=by unfold q6;rw[yT h hb,toNat_natCast,aO hb]
abbrev GD(a:As)(k:Int)(x y:Rt):AV:=.agg [nA (q7 a k x y),nA (q6 a k x y)]
theorem Me(a:As)(al:AL a)(k:Int)(x y:Rt)(hx:x.ok)(hy:y.ok)(qx:Qb 4000 x.q)(qy:Qb 4000 y.q) :
  FP 52 [a.av,i64 k,x.av,y.av] (.tup [GD a k x y,bm (jw a k)]):=by
 have hbl:=al.bl;refine af func52 ?_;refine gc (oT a.rs 40000 al.tr) ?_;refine gC (fun t15=>?_) (fun t15=>?_)
 ·have h1:=de t15;refine gR ?_;exact bw (by rw[yy h1];exact Sub.tup (.cons (In _ _ (Dm (by rw[yy h1];exact h1)) (Ft (by rw[yy h1];exact h1))) (.cons (.refl _) .nil)))
 have h1:=cR t15;refine bS ?_;refine gC (fun t26=>?_) (fun t26=>?_)
 ·have h2:=yU t26;refine gR ?_;exact bw (by rw[ye h1 h2];exact Sub.tup (.cons (In _ _ (Dm (by rw[ye h1 h2];decide)) (Ft (by rw[ye h1 h2];decide))) (.cons (.refl _) .nil)))
 have h2:=yr t26;obtain⟨i,rfl,hi⟩:=zF h2;obtain⟨b,hb⟩:=az hi;have hsz:=VC al h1;refine gi (ay hb) ?_;refine gc (Mi a.rs 40000 4000 al.tr h1 b (al.nr b (mem_of_getElem? hb)) x y hx hy qx qy hsz) ?_;refine gD ?_;refine bf ?_;show _=AV.tup [AV.agg [nA (q7 a (i:Nat) x y),nA (q6 a (i:Nat) x y)],_];rw[yT h1 hb,PH h1 hb,L2 h1 hb]
theorem xG(rs:List (List Rt)):aZ rs []=bc rs:=by
 unfold aZ
 by_cases h:bc rs=0
 ·rw[VP oz,h];rfl
 ·rw[VQ h]
abbrev qN(p:Rat×Rat):AV:=ao (sh 0 (p.1:Rat)) (sh 0 (p.2:Rat))
abbrev eN{ts:LL}(p:Et ts×Et ts):AV:=ao (sX p.1) (sX p.2)
theorem oS{l:Li}(hl:l.ok)(hli:aG l=0){body pt:Int}(h1:br body l.bo.length=true)(h2:br pt (cF l body).length=true):FP 302 [l.av,i64 body,i64 pt] (qN (ax l body pt)):=by
 obtain⟨n,k,bd,m,mp⟩:=sa hl hli h1 h2;have hn:=mp.hn;have hk:=mp.hk;have hlb:=hl.lb;have ho:=xM (mp.sm.x.qs oz) (mp.sm.y.qs oz);have ho:FP 93 [m.x.av,m.y.av] (qN (ax l body pt)):=by rw[mp.ex,mp.ey];exact ho
 refine af func302 ?_;refine gi (dg (n:=n) hn mp.gbd) ?_;refine gi (dg (n:=k) hk mp.gm) ?_;refine gc ho ?_;refine ae ?_;rfl
theorem Ai{E:Nat}(hE:E<=20000000000){l:Li}{a:As}(D:DyW l a)(h3:(llq a.rs).length<=2){body pt:Int}(h1:br body l.bo.length=true)(h2:br pt (cF l body).length=true)(hb:Pd E a body) :
  FP 301 [l.av,a.av,i64 body,i64 pt] (eN (aV l a body pt)):=by
 obtain⟨n,k,bd,m,b,hp⟩:=sU D.hl D.li D.al D.hc h1 h2 hb;obtain⟨tw,hta⟩:=bN D.al.tr D.hc;have kb:=u7 h3;have hlm:lm (llq a.rs).length=200000000000:=by unfold lm;rw[VQ h3]
 have hlb:=D.hl.lb;have hbl:=D.al.bl;show FP _ _ (ao (sh (llq a.rs).length (oR l a body pt).1) (sh (llq a.rs).length (oR l a body pt).2));rw[hp.eq];have hn:=hp.mp.hn;have hk:=hp.mp.hk
 have hat:FP 166 [cf a.rs,b.av,m.x.av,m.y.av] (ao (sh (llq a.rs).length (kZ (llq a.rs) b m).1) (sh (llq a.rs).length (kZ (llq a.rs) b m).2)):=by
  rw[hta,hp.av,hp.mp.ex,hp.mp.ey];have h9:=Jw tw (hp.ok.c.mono hE) (hp.ok.s.mono hE) (hp.ok.x.mono hE) (hp.ok.y.mono hE) (hp.mp.sm.x.mono (f:=20000000000) oz) (hp.mp.sm.y.mono (f:=20000000000) oz) (by rw[hlm];omega);unfold kZ;rw[hp.mp.ex,hp.mp.ey,bt,bt];exact h9
 refine af func301 ?_;refine gi (dg (n:=n) hn hp.mp.gbd) ?_;refine gi (dg (n:=k) hk hp.mp.gm) ?_;refine gi (dg (n:=n) hn hp.gb) ?_;refine gc hat ?_;refine gD ?_;refine ae ?_;rfl
theorem xT{l:Li}{a:As}(D:DyR l a){body pt:Int}(h1:br body l.bo.length=true)(h2:br pt (cF l body).length=true)(hb:Pd 3900000 a body) :
  FP 301 [l.av,a.av,i64 body,i64 pt] (eN (aV l a body pt)):=Ai oz D.toDyW D.two h1 h2 hb
theorem qB(j:Jt)(b:Int):FP 300 [j.av,i64 b] (.tup [i64 (rC j b),i64 (pP j b),i64 (mC j b)]):=by
 refine af func300 ?_;refine gC (fun t10=>?_) (fun t10=>?_)
 ·have e:j.a=b:=bV t10;refine gD ?_;refine uV ?_;unfold rC pP mC;rw[VQ e,VQ e,VQ e]
 have e:j.a≠b:=cr t10;refine gD ?_;refine uV ?_;unfold rC pP mC;rw[VP e,VP e,VP e]
theorem FK{E:Nat}(hE:E<=20000000000){l:Li}{a:As}(D:DyW l a)(h3:(llq a.rs).length<=2){n:Nat}{j:Jt}(hj:l.jo[n]?=some j){b:Int}(h:PinP E l a j b):FP 301 [l.av,a.av,i64 (pP j b),i64 (mC j b)] (eN (am l a j b)):=by
 obtain⟨i1,i2,i3,i4,_⟩:=dm D.li hj;unfold am pP mC;rcases h.tie with⟨e,hb⟩ |⟨e,e2,hb⟩
 ·rw[VQ e,VQ e,VQ e];exact Ai hE D h3 i2 i4 hb
 ·rw[VP e,VP e,VP e];exact Ai hE D h3 i1 i3 hb
theorem xr{l:Li}{a:As}(D:DyR l a){n:Nat}{j:Jt}(hj:l.jo[n]?=some j){b:Int}(h:PinP 3900000 l a j b):FP 301 [l.av,a.av,i64 (pP j b),i64 (mC j b)] (eN (am l a j b)):=FK oz D.toDyW D.two hj h
theorem qw{l:Li}(hl:l.ok)(hli:aG l=0){n:Nat}{j:Jt}(hj:l.jo[n]?=some j){b:Int}(h:j.a=b\/j.b=b):FP 302 [l.av,i64 b,i64 (rC j b)] (qN (ah l j b)):=by
 obtain⟨i1,i2,i3,i4,_⟩:=dm hli hj;unfold ah rC
 by_cases e:j.a=b
 ·rw[VQ e,VQ e];subst e;exact oS hl hli i1 i3
 ·rw[VP e,VP e];rcases h with h |h
  ·exact absurd h e
  ·subst h;exact oS hl hli i2 i4
theorem R7{l:Li}(hl:l.ok)(hli:aG l=0){n:Nat}{j:Jt}(hj:l.jo[n]?=some j){i k:Int}(ne:i≠k)(t1:j.a=i\/j.b=i)(t2:j.a=k\/j.b=k):FP 302 [l.av,i64 k,i64 (mC j i)] (qN (ah l j k)):=by
 obtain⟨i1,i2,i3,i4,_⟩:=dm hli hj;unfold ah mC
 by_cases e:j.a=i
 ·rw [VQ e, VP oz];obtain rfl:j.b = k:=by omega
  exact oS hl hli i2 i4
 ·rw [VP e, VQ oz];obtain rfl:j.a = k:=by omega
  exact oS hl hli i1 i3
abbrev nl:AV:=nS
abbrev ee:List AV:=[nl,nl]
abbrev ff(p:Rat×Rat):List AV:=[nA (sh 0 (p.1:Rat)),nA (sh 0 (p.2:Rat))]
abbrev fK{ts:LL}(p:Et ts×Et ts):List AV:=[nA (sX p.1),nA (sX p.2)]
abbrev vT(l:Li)(a:As)(i k:Int)(j0 j1 j2:Jt):List AV :=
  [i64 1,i64 i,i64 k]++(fK (am l a j0 i)++(fK (am l a j1 k)++(ff (ah l j0 i)++(ff (ah l j1 k)++(ff (ah l j2 i)++(ff (ah l j2 k)++(ee++(ee ++
    ([nA (sX (au (qv (ah l j2 i)) (qv (ah l j0 i)):Et (llq a.rs))),nA (sX (au (qv (ah l j2 k)) (qv (ah l j1 k)):Et (llq a.rs)))]++(ee++[nl,nl,nA (sX (au (am l a j1 k) (am l a j0 i)))]))))))))))
abbrev wn(l:Li)(a:As)(i:Int)(j0 j:Jt):List AV :=
  [i64 2,i64 i,i64 0]++(fK (am l a j0 i)++(ee++(ff (ah l j0 i)++(ee++(ff (ax l i j.point)++(ee++(fK (aV l a j.b j.on)++(fK (aV l a j.b j.to) ++
    ([nA (sX (au (qv (ax l i j.point)) (qv (ah l j0 i)):Et (llq a.rs))),nl]++(fK (aW (aV l a j.b j.to) (aV l a j.b j.on))++[nl,nl,nl]))))))))))
abbrev uI(l:Li)(a:As)(i:Int)(j0 j:Jt):List AV :=
  [i64 3,i64 i,i64 0]++(fK (am l a j0 i)++(fK (aV l a j.a j.point)++(ff (ah l j0 i)++(ee++(ee++(ee++(ff (ax l i j.on)++(ff (ax l i j.to) ++
    ([nl,nl]++(fK (aW (qv (ax l i j.to)) (qv (ax l i j.on)):Et (llq a.rs)×Et (llq a.rs)) ++
      [nA (sX (k9 (aW (qv (ax l i j.to)) (qv (ax l i j.on))) (aW (qv (ax l i j.on)) (qv (ah l j0 i))):Et (llq a.rs))),nA (sX (gN (aW (qv (ax l i j.to)) (qv (ax l i j.on))) (aW (qv (ax l i j.to)) (qv (ax l i j.on))):Et (llq a.rs))),nA (sX (au (aV l a j.a j.point) (am l a j0 i)))]))))))))))
abbrev BB(l:Li)(a:As)(i:Int)(j0:Jt):List AV :=
  [i64 0,i64 i,i64 0]++(fK (am l a j0 i)++(ee++(ff (ah l j0 i)++(ee++(ee++(ee++(ee++(ee++([nl,nl]++(ee++[nl,nl,nl]))))))))))
section
variable{ts:LL}{a b a2 b2:List Rat}{x y x2 y2:Et ts}
theorem xl {u k w v w' v' w2 v2 w3 v3 : Nat} [c : Ct ts u k] [ha : Zl ts u k a x w v] [hb : Zl ts u k b y w' v'] [ha2 : Zl ts u k a2 x2 w2 v2] [hb2 : Zl ts u k b2 y2 w3 v3] (h : 2 * (w + v + (w' + v') + (w2 + v2 + (w3 + v3))) + 4 <= 2500 := by decide) :
  FP 303 [an ts,ao a b,ao a2 b2] (nA (sX (au (x,y) (x2,y2)))):=by
 haveI:=ha.zu;haveI:=hb.zu;haveI:=ha2.zu;haveI:=hb2.zu;have h1:=nD (ts:=ts) (a:=a) (b:=b) (a2:=a2) (b2:=b2) oz;have h2:=wz (ts:=ts) (a:=sX (x-x2)) (b:=sX (y-y2)) (a2:=sX (x-x2)) (b2:=sX (y-y2)) oz;refine af func303 ?_;refine gc h1 ?_;refine gc h2 ?_;refine ae ?_;rfl
end
theorem si{ts:LL}(c:Ct ts 310000 65000){p:Rat×Rat}(hp:Sm 1000 p):Zl ts 310000 65000 (sh 0 (p.1:Rat)) (qE p.1) 1 0/\Zl ts 310000 65000 (sh 0 (p.2:Rat)) (qE p.2) 1 0:=by
 haveI:=c;haveI:=lU (w:=1) (hp.x) oz;haveI:=lU (w:=1) (hp.y) oz;exact⟨inferInstance,inferInstance⟩
theorem yK{a:As}{l:Li}(D:DyR l a){p q:Rat×Rat}(hp:Sm 1000 p)(hq:Sm 1000 q):FP 303 [cf a.rs,qN p,qN q] (nA (sX (au (qv p) (qv q):Et (llq a.rs)))):=by
 haveI c:=D.s.ct D.hc;obtain⟨z1,z2⟩:=si c hp;obtain⟨z3,z4⟩:=si c hq;have h:=xl (ts:=llq a.rs) (u:=310000) (k:=65000) (a:=sh 0 (p.1:Rat)) (b:=sh 0 (p.2:Rat)) (a2:=sh 0 (q.1:Rat)) (b2:=sh 0 (q.2:Rat)) (by decide);rw[<- (bN D.s.tr D.hc).2]at h;exact h
theorem Il{a:As}{l:Li}(D:DyR l a){p q:Et (llq a.rs)×Et (llq a.rs)}(h1:Zu 310000 65000 p.1 40 40)(h2:Zu 310000 65000 p.2 40 40)(h3:Zu 310000 65000 q.1 40 40)(h4:Zu 310000 65000 q.2 40 40) :
  FP 303 [cf a.rs,eN p,eN q] (nA (sX (au p q))):=by
 haveI c:=D.s.ct D.hc;haveI:=h1;haveI:=h2;haveI:=h3;haveI:=h4
 have h:=xl (ts:=llq a.rs) (u:=310000) (k:=65000) (a:=sX p.1) (b:=sX p.2) (a2:=sX q.1) (b2:=sX q.2) (by decide);rw[<- (bN D.s.tr D.hc).2]at h;exact h
theorem lH{l:Li}{a:As}{j:Jt}{b:Int}(p0:PinP 3900000 l a j b):j.a=b\/j.b=b:=by rcases p0.tie with h9 |h9;exact .inl h9.1;exact .inr h9.2.1
theorem Q0{l:Li}{a:As}(D:DyR l a){n:Nat}{i k z0 z1 z2:Int}{j0 j1 j2:Jt}(hG:(aK l)[n]?=some ⟨1,[i,k],[z0,z1,z2],0⟩)(hgo:GrOk l ⟨1,[i,k],[z0,z1,z2],0⟩)(P:RrrP 3900000 l a ⟨1,[i,k],[z0,z1,z2],0⟩ i k z0 z1 z2 j0 j1 j2)(ne:i≠k) :
  FP 201 [l.av,i64 n,a.av] (.agg (vT l a i k j0 j1 j2)):=by
 have hsl:=kE D.li;have hlj:=D.hl.lj;have hj0:=(hgo.j z0 (by simp)).1;have hj1:=(hgo.j z1 (by simp)).1;have hj2:=(hgo.j z2 (by simp)).1;have q0:=dL D.hl D.li P.h0 (lH P.p0);have q1:=dL D.hl D.li P.h1 (lH P.p1);have q2:=dL D.hl D.li P.h2 P.t1;have q3:=dL D.hl D.li P.h2 P.t2;obtain⟨y1,y2⟩:=gO D.hl D.li D.al D.s D.hc P.h0 P.p0;obtain⟨y3,y4⟩:=gO D.hl D.li D.al D.s D.hc P.h1 P.p1;refine af func201 ?_;refine gc (m9 l D.hl D.li) ?_;refine gi (ay hG) ?_;refine gi (rfl) ?_;refine gD ?_;refine gi (rfl) ?_;refine gi (dg (n:=z0.toNat) oz P.h0) ?_;refine gc (qB j0 i) ?_;refine gD ?_;refine gc (xr D P.h0 P.p0) ?_;refine gc (qw D.hl D.li P.h0 (lH P.p0)) ?_;refine gD ?_;refine gC (fun t64=>?_) (fun t64=>?_) (st2:=(16,0))
 ·refine gi (rfl) ?_;refine gi (rfl) ?_;refine gi (dg (n:=z1.toNat) oz P.h1) ?_;refine gc (qB j1 k) ?_;refine gD ?_;refine gc (xr D P.h1 P.p1) ?_;refine gc (qw D.hl D.li P.h1 (lH P.p1)) ?_;refine gD ?_;refine gi (rfl) ?_;refine gi (dg (n:=z2.toNat) oz P.h2) ?_;refine gc (qB j2 i) ?_;refine gD ?_;refine gc (qw D.hl D.li P.h2 P.t1) ?_;refine gc (R7 D.hl D.li P.h2 ne P.t1 P.t2) ?_;refine gD ?_;refine gc (yK D q2 q0) ?_;refine gc (yK D q3 q1) ?_;refine gD ?_;refine gc (Il D y3 y4 y1 y2) ?_;refine ae ?_;rfl
 cases t64
theorem Rs{l:Li}{a:As}(D:DyR l a){n:Nat}{i z0 z1:Int}{j0 j:Jt}(hG:(aK l)[n]?=some ⟨2,[i],[z0,z1],0⟩)(hgo:GrOk l ⟨2,[i],[z0,z1],0⟩)(P:SlP 3900000 l a ⟨2,[i],[z0,z1],0⟩ 2 i z0 z1 j0 j)(ha:j.a=i)(hb:Pd 3900000 a j.b) :
  FP 201 [l.av,i64 n,a.av] (.agg (wn l a i j0 j)):=by
 have hsl:=kE D.li;have hlj:=D.hl.lj;have hj0:=(hgo.j z0 (by simp)).1;have hj1:=(hgo.j z1 (by simp)).1;have q0:=dL D.hl D.li P.h0 (lH P.p0);obtain⟨i1,i2,i3,i4,i5⟩:=dm D.li P.h1;have hown:FP 302 [l.av,i64 i,i64 j.point] (qN (ax l i j.point)):=by rw[<- ha];exact oS D.hl D.li i1 i3
 have q2:Sm 1000 (ax l i j.point):=by rw[<- ha];exact gI D.hl D.li i1 i3
 obtain⟨y3,y4⟩:=gV D.hl D.li D.al D.s D.hc i2 (i5 P.hk) hb;obtain⟨y7,y8⟩:=gV D.hl D.li D.al D.s D.hc i2 i4 hb;haveI c:=D.s.ct D.hc;haveI:=y3;haveI:=y4;haveI:=y7;haveI:=y8
 have hs:=nD (ts:=llq a.rs) (u:=310000) (k:=65000) (a:=sX (aV l a j.b j.to).1) (b:=sX (aV l a j.b j.to).2) (a2:=sX (aV l a j.b j.on).1) (b2:=sX (aV l a j.b j.on).2);rw[<- (bN D.s.tr D.hc).2]at hs;refine af func201 ?_;refine gc (m9 l D.hl D.li) ?_;refine gi (ay hG) ?_;refine gi (rfl) ?_;refine gD ?_;refine gi (rfl) ?_;refine gi (dg (n:=z0.toNat) oz P.h0) ?_;refine gc (qB j0 i) ?_;refine gD ?_;refine gc (xr D P.h0 P.p0) ?_;refine gc (qw D.hl D.li P.h0 (lH P.p0)) ?_;refine gD ?_;refine gC (fun t64=>?_) (fun t64=>?_) (st1:=(9,0));cases t64;refine gC (fun t146=>?_) (fun t146=>?_) (st2:=(21,0))
 ·refine gi (rfl) ?_;refine gi (dg (n:=z1.toNat) oz P.h1) ?_;refine gD ?_;refine gc (xT D i2 i4 hb) ?_;refine gc (xT D i2 (i5 P.hk) hb) ?_;refine gc hown ?_;refine gD ?_;refine gc (yK D q2 q0) ?_;refine gc hs ?_;refine ae ?_;rfl
 cases t146
theorem Vj{l:Li}{a:As}(D:DyR l a){n:Nat}{i z0 z1:Int}{j0 j:Jt}(hG:(aK l)[n]?=some ⟨3,[i],[z0,z1],0⟩)(hgo:GrOk l ⟨3,[i],[z0,z1],0⟩)(P:SlP 3900000 l a ⟨3,[i],[z0,z1],0⟩ 3 i z0 z1 j0 j)(hj:j.b=i)(hb:Pd 3900000 a j.a) :
  FP 201 [l.av,i64 n,a.av] (.agg (uI l a i j0 j)):=by
 have hsl:=kE D.li;have hlj:=D.hl.lj;have hj0:=(hgo.j z0 (by simp)).1;have hj1:=(hgo.j z1 (by simp)).1;have q0:=dL D.hl D.li P.h0 (lH P.p0);obtain⟨i1,i2,i3,i4,i5⟩:=dm D.li P.h1;have ho1:FP 302 [l.av,i64 i,i64 j.on] (qN (ax l i j.on)):=by rw[<- hj];exact oS D.hl D.li i2 i4
 have ho2:FP 302 [l.av,i64 i,i64 j.to] (qN (ax l i j.to)):=by rw[<- hj];exact oS D.hl D.li i2 (i5 P.hk)
 have q1:Sm 1000 (ax l i j.on):=by rw[<- hj];exact gI D.hl D.li i2 i4
 have q2:Sm 1000 (ax l i j.to):=by rw[<- hj];exact gI D.hl D.li i2 (i5 P.hk)
 obtain⟨y1,y2⟩:=gO D.hl D.li D.al D.s D.hc P.h0 P.p0;obtain⟨y3,y4⟩:=gV D.hl D.li D.al D.s D.hc i1 i3 hb;haveI c:=D.s.ct D.hc;obtain⟨x1,x2⟩:=si c q0;obtain⟨x3,x4⟩:=si c q1;obtain⟨x5,x6⟩:=si c q2;haveI:=x1.zu;haveI:=x2.zu;haveI:=x3.zu;haveI:=x4.zu;haveI:=x5.zu;haveI:=x6.zu
 have s1:=nD (ts:=llq a.rs) (u:=310000) (k:=65000) (a:=sh 0 ((ax l i j.to).1:Rat)) (b:=sh 0 ((ax l i j.to).2:Rat)) (a2:=sh 0 ((ax l i j.on).1:Rat)) (b2:=sh 0 ((ax l i j.on).2:Rat));have s2:=wz (ts:=llq a.rs) (u:=310000) (k:=65000) (a:=sX (qE (ax l i j.to).1-qE (ax l i j.on).1:Et (llq a.rs))) (b:=sX (qE (ax l i j.to).2-qE (ax l i j.on).2:Et (llq a.rs))) (a2:=sX (qE (ax l i j.to).1-qE (ax l i j.on).1:Et (llq a.rs))) (b2:=sX (qE (ax l i j.to).2-qE (ax l i j.on).2:Et (llq a.rs)));have s3:=nD (ts:=llq a.rs) (u:=310000) (k:=65000) (a:=sh 0 ((ax l i j.on).1:Rat)) (b:=sh 0 ((ax l i j.on).2:Rat)) (a2:=sh 0 ((ah l j0 i).1:Rat)) (b2:=sh 0 ((ah l j0 i).2:Rat));have s4:=DJ (ts:=llq a.rs) (u:=310000) (k:=65000) (a:=sX (qE (ax l i j.to).1-qE (ax l i j.on).1:Et (llq a.rs))) (b:=sX (qE (ax l i j.to).2-qE (ax l i j.on).2:Et (llq a.rs))) (a2:=sX (qE (ax l i j.on).1-qE (ah l j0 i).1:Et (llq a.rs))) (b2:=sX (qE (ax l i j.on).2-qE (ah l j0 i).2:Et (llq a.rs)));rw[<- (bN D.s.tr D.hc).2]at s1 s2 s3 s4;refine af func201 ?_;refine gc (m9 l D.hl D.li) ?_;refine gi (ay hG) ?_;refine gi (rfl) ?_;refine gD ?_;refine gi (rfl) ?_;refine gi (dg (n:=z0.toNat) oz P.h0) ?_;refine gc (qB j0 i) ?_;refine gD ?_;refine gc (xr D P.h0 P.p0) ?_;refine gc (qw D.hl D.li P.h0 (lH P.p0)) ?_;refine gD ?_;refine gC (fun t64=>?_) (fun t64=>?_) (st1:=(9,0));cases t64;refine gC (fun t146=>?_) (fun t146=>?_) (st1:=(17,0));cases t146;refine gC (fun t193=>?_) (fun t193=>?_) (st2:=(77777,0))
 ·refine gi (rfl) ?_;refine gi (dg (n:=z1.toNat) oz P.h1) ?_;refine gD ?_;refine gc (xT D i1 i3 hb) ?_;refine gc ho1 ?_;refine gc ho2 ?_;refine gD ?_;refine gc s1 ?_;refine gc s2 ?_;refine gc s3 ?_;refine gc s4 ?_;refine gD ?_;refine gc (Il D y3 y4 y1 y2) ?_;refine ae ?_;rfl
 cases t193
theorem OZ{E:Nat}(hE:E<=20000000000){l:Li}{a:As}(D:DyW l a)(h3:(llq a.rs).length<=2){n:Nat}{i z0 d:Int}{j0:Jt}(hG:(aK l)[n]?=some ⟨0,[i],[z0],d⟩)(hgo:GrOk l ⟨0,[i],[z0],d⟩)(h0:l.jo[z0.toNat]?=some j0)(p0:PinP E l a j0 i) :
  FP 201 [l.av,i64 n,a.av] (.agg (BB l a i j0)):=by
 have hsl:=kE D.li;have hlj:=D.hl.lj;have hj0:=(hgo.j z0 (by simp)).1;refine af func201 ?_;refine gc (m9 l D.hl D.li) ?_;refine gi (ay hG) ?_;refine gi (rfl) ?_;refine gD ?_;refine gi (rfl) ?_;refine gi (dg (n:=z0.toNat) oz h0) ?_;refine gc (qB j0 i) ?_;refine gD ?_;refine gc (FK hE D h3 h0 p0) ?_;refine gc (qw D.hl D.li h0 p0.or) ?_;refine gD ?_;refine gC (fun t64=>?_) (fun t64=>?_) (st1:=(9,0));cases t64;refine gC (fun t146=>?_) (fun t146=>?_) (st1:=(17,0));cases t146;refine gC (fun t193=>?_) (fun t193=>?_) (st1:=(22,0));cases t193;refine ae ?_;rfl
end Go.Lw
