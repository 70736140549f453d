/- SingularModes: for any linkage and any turns the law returns true and leaves its arguments as they were. No other condition. Part 7 of 8: what the later parts need -/
import Derived.Test.YtokaoegjfpjjnaaGreatSf
set_option linter.unusedVariables false
open List (foldl_cons nil_append map_nil map_map)
open List renaming mem_of_getElem? → aap, mem_cons_of_mem → abt, mem_append → aa2, map_cons → ab2, mem_cons → abd, length_cons → aa4, mem_cons_self → abr, length_append → abi, length_nil → abg, getD_eq_getElem?_getD → aaq, getElem?_take → abj, getElem?_map → aav, append_assoc → abu, getElem?_eq_getElem → aat, getElem?_replicate → abl, append_nil → ab3, map_append → abf, length_take → abc, take_of_length_le → aa7, drop_zero → ab1, take_length → aa8, not_mem_nil → abb, length_map → aar, getElem?_of_mem → aby, map_replicate → abw, map_set → ab0, length_set → ab4, map_congr_left → YW, getElem?_eq_some_iff → Y1, mem_range → Y3, cons_append → Y4, drop_eq_getElem_cons → Y5, replicate → Y6, drop_length → Y7, mem_map → Y8, mem_singleton → Za, countP_cons_of_pos → Ze, mem_replicate → Zg, contains_iff_mem → Zh, getElem_mem → Zi, countP_cons → Zn, mem_or_eq_of_mem_set → Zo, any_eq_true → Zz
open Nat renaming eq_of_beq_eq_true → aax, le_refl → aau, lt_or_ge → aay, le_trans → abe, mul_le_mul_right → abh, zero_le → aa0, pow_add → abq, blt → X9, zero_add → Yf, pow_succ → Yj, add_sub_cancel → Yl, pow_lt_pow_right → Yv, beq_refl → Yy, mul_le_mul → YC, mul_pos → YJ, pow_pos → YP, beq → YQ, succ_mul → YT
open Option renaming map_eq_some_iff → aas
open Bool renaming and_eq_true → aaw, or_eq_true → abz, false_eq_true → ZX, eq_false_iff → ZY, not_eq_false' → Z0
open Int renaming toNat_natCast → abn, natAbs_mul → ZJ
open Rat renaming intCast_mul → ZT
open Decidable renaming not_not → aao
open Go renaming Operand → acf, TypeId → ach, Program → aci
open Go.Proofs.Tryz
namespace Go.Lw
open Go.Proofs
theorem I4{ts:LL}{r e:Nat}(tw:Tw ts r){a b c:List Rat}(ha:Nm ts.length e a)(hb:Nm ts.length e b)(hc:Nm ts.length e c)(he:2*(e+e+kB r ts.length)<=lm ts.length) :
  FP 382 [aT ts,nA a,aD b c] (.tup [aD (sh ts.length (T.mul (au ts) ts.length (ae ts.length a) (ae ts.length b))) (sh ts.length (T.mul (au ts) ts.length (ae ts.length a) (ae ts.length c))),.v .nilIface]):=by
 refine aj func382 ?_;refine gc (x7 (e:=e) tw [a,b,c] (by simp only[abd,abb,or_false];rintro x (rfl |rfl |rfl) <;> assumption) oz (by simp)) ?_;refine gf ?_;refine gt (aE (Con.rB 24 rfl rfl rfl rfl (lY tw ha hb oz)) (aJ rfl rfl rfl) aG rfl rfl) ?_;refine gt (aE (Con.rB 24 rfl rfl rfl rfl (lY tw ha hc oz)) (aJ rfl rfl rfl) aG rfl rfl) ?_;refine gt (aE (Con.rB 24 rfl rfl rfl rfl (vA _ _ _)) (bC rfl rfl) aG rfl rfl) ?_;refine gD ?_;refine bt ?_;rfl
section
variable{ts:LL}
def ut(q w1 w2 h:Et ts):Et ts:=q*w1-h*-w2
def uT(q w1 w2 h:Et ts):Et ts:=q*w2-h*w1
def n8(ts:LL)(q h d:List Rat)(w:List Rat×List Rat):P2 ts:=(ut (dE ts q) (dE ts w.1) (dE ts w.2) (dE ts h)*iE (dE ts d),uT (dE ts q) (dE ts w.1) (dE ts w.2) (dE ts h)*iE (dE ts d))
structure Rp where
  v:Rat×Rat
  p:Rat×Rat
  a:List Rat×List Rat
  h:List Rat
  d:List Rat
  w:List Rat×List Rat
def nF(ts:LL)(R:Rp)(q:List Rat):Pq:=gL R.v (n8 ts q R.h R.d R.w) R.p (dE ts R.a.1,dE ts R.a.2)
structure RqP(ts:LL)(R:Rp)(q:List Rat):Prop where
  sm:Sm 3000 R.v
  sp:Sm 3000 R.p
  c1:FP 382 [aT ts,nA q,aD R.w.1 R.w.2] (.tup [aD (sX (dE ts q*dE ts R.w.1)) (sX (dE ts q*dE ts R.w.2)),.v .nilIface])
  ng:FP 128 [aT ts,nA R.w.2] (.tup [nA (sX (-dE ts R.w.2)),.v .nilIface])
  c2:FP 382 [aT ts,nA R.h,aD (sX (-dE ts R.w.2)) R.w.1] (.tup [aD (sX (dE ts R.h*-dE ts R.w.2)) (sX (dE ts R.h*dE ts R.w.1)),.v .nilIface])
  sb:FP 98 [aT ts,aD (sX (dE ts q*dE ts R.w.1)) (sX (dE ts q*dE ts R.w.2)),aD (sX (dE ts R.h*-dE ts R.w.2)) (sX (dE ts R.h*dE ts R.w.1))] (.tup [aD (sX (ut (dE ts q) (dE ts R.w.1) (dE ts R.w.2) (dE ts R.h))) (sX (uT (dE ts q) (dE ts R.w.1) (dE ts R.w.2) (dE ts R.h))),.v .nilIface])
  d1:FP 350 [aT ts,nA (sX (ut (dE ts q) (dE ts R.w.1) (dE ts R.w.2) (dE ts R.h))),nA R.d] (.tup [nA (sX (n8 ts q R.h R.d R.w).1),.v .nilIface])
  d2:FP 350 [aT ts,nA (sX (uT (dE ts q) (dE ts R.w.1) (dE ts R.w.2) (dE ts R.h))),nA R.d] (.tup [nA (sX (n8 ts q R.h R.d R.w).2),.v .nilIface])
  e1:sX (dE ts R.a.1)=R.a.1
  e2:sX (dE ts R.a.2)=R.a.2
  b:BdP ts R.v (n8 ts q R.h R.d R.w) R.p (dE ts R.a.1,dE ts R.a.2)
theorem RqP.body{R:Rp}{q:List Rat}(H:RqP ts R q) :
  Con prog 374 [.ptr 1000 0,qP R.v,dC (n8 ts q R.h R.d R.w).l,qP R.p,aD R.a.1 R.a.2] [pP 1000 (bi ts)] (nF ts R q).av [pP 1000 (bi ts)]:=by
 have hb:=Az H.sm H.sp H.b
 have e:dC (P2.l ((dE ts R.a.1,dE ts R.a.2):P2 ts))=aD R.a.1 R.a.2:=by
  show aD (sX (dE ts R.a.1)) (sX (dE ts R.a.2))=_;rw[H.e1,H.e2]
 rw[e]at hb;exact hb
theorem HV{R:Rp}{q:List Rat}{j:Nat}(cy:Cy ts 773000000 1101400000)(sm:Sm 3000 R.v)(sp:Sm 3000 R.p)(h0:b9 R.v R.v≠0)(nq:Nm ts.length 773000000 q)(nh:Nm ts.length 773000000 R.h)(nd:Nm ts.length 773000000 R.d)
  (n1:Nm ts.length 773000000 R.w.1) (n2:Nm ts.length 773000000 R.w.2) (a1:Nm ts.length 773000000 R.a.1) (a2:Nm ts.length 773000000 R.a.2) (e1:sX (dE ts R.a.1)=R.a.1) (e2:sX (dE ts R.a.2)=R.a.2)
  (nj:Nl j R.d) (hj:j<=ts.length) (hj1:j<=1) (hd:ao (dE ts R.d)≠0):RqP ts R q:=by
 obtain⟨r,tw,hk⟩:=cy.ex;have hl:=cy.lm;haveI:=cy;haveI zq:Zl ts 773000000 1101400000 q (dE ts q) 1 0:=Zl.at nq (aau _);haveI zh:Zl ts 773000000 1101400000 R.h (dE ts R.h) 1 0:=Zl.at nh (aau _);haveI zd:Zl ts 773000000 1101400000 R.d (dE ts R.d) 1 0:=Zl.at nd (aau _);haveI z1:Zl ts 773000000 1101400000 R.w.1 (dE ts R.w.1) 1 0:=Zl.at n1 (aau _);haveI z2:Zl ts 773000000 1101400000 R.w.2 (dE ts R.w.2) 1 0:=Zl.at n2 (aau _);haveI:=zq.zu;haveI:=zh.zu;haveI:=z1.zu;haveI:=z2.zu
 haveI zn:Zu 773000000 1101400000 (-dE ts R.w.2) 1 0:=ace;haveI y1:Zu 773000000 1101400000 (dE ts q*dE ts R.w.1) 2 1:=ace;haveI y2:Zu 773000000 1101400000 (dE ts q*dE ts R.w.2) 2 1:=ace;haveI y3:Zu 773000000 1101400000 (dE ts R.h*-dE ts R.w.2) 2 1:=ace;haveI y4:Zu 773000000 1101400000 (dE ts R.h*dE ts R.w.1) 2 1:=ace;haveI x1:Zu 773000000 1101400000 (ut (dE ts q) (dE ts R.w.1) (dE ts R.w.2) (dE ts R.h)) 4 3:=(ace:Zu 773000000 1101400000 (dE ts q*dE ts R.w.1-dE ts R.h*-dE ts R.w.2) 4 3)
 haveI x2:Zu 773000000 1101400000 (uT (dE ts q) (dE ts R.w.1) (dE ts R.w.2) (dE ts R.h)) 4 3:=(ace:Zu 773000000 1101400000 (dE ts q*dE ts R.w.2-dE ts R.h*dE ts R.w.1) 4 3)
 have ew:∀x:Et ts,ae ts.length (sX x)=x:=fun x=>bh _ _
 have hkB:kB r ts.length<=1101400000:=hk;have c1:=I4 tw nq n1 n2 (by rw[hl];omega);have ng:=KG (ts:=ts) (u:=773000000) (k:=1101400000) (a:=R.w.2) (by decide);have nn:Nm ts.length 773000000 (sX (-dE ts R.w.2)):=zn.nm.mono (by decide);have c2:=I4 tw nh nn n1 (by rw[hl];omega);rw[ew]at c2;have sb:=BT (a:=sX (dE ts q*dE ts R.w.1)) (b:=sX (dE ts q*dE ts R.w.2)) (c:=sX (dE ts R.h*-dE ts R.w.2)) (d:=sX (dE ts R.h*dE ts R.w.1)) tw y1.nm y2.nm y3.nm y4.nm (by rw[hl];decide);rw[ew,ew,ew,ew]at sb;have d1:=qN (ts:=ts) (u:=773000000) (k:=1101400000) (a:=sX (ut (dE ts q) (dE ts R.w.1) (dE ts R.w.2) (dE ts R.h))) (b:=R.d) nj hj hj1 hd (by decide);have d2:=qN (ts:=ts) (u:=773000000) (k:=1101400000) (a:=sX (uT (dE ts q) (dE ts R.w.1) (dE ts R.w.2) (dE ts R.h))) (b:=R.d) nj hj hj1 hd (by decide);exact⟨sm,sp,c1,ng,c2,sb,d1.1,d2.1,e1,e2,EA tw cy.two hkB sm sp h0 (d1.2.nm.mono (by decide)) (d2.2.nm.mono (by decide)) (by show Nm ts.length 773000000 (sX (dE ts R.a.1));rw[e1];exact a1) (by show Nm ts.length 773000000 (sX (dE ts R.a.2));rw[e2];exact a2)⟩
end
def iY(ts:LL)(R:Rp)(qs:LL)(i:Nat):Sv:=⟨ts,[nF ts R (qs.getD i [])],if qs.length=1 then 0 else 1-2*(i:Int)⟩
def kS(ts:LL)(R:Rp)(qs:LL)(n:Nat):List AV:=(List.range n).map fun i=>(iY ts R qs i).av
theorem CQ(ts:LL)(R:Rp)(qs:LL)(n:Nat):(kS ts R qs n).length=n:=by simp[kS]
theorem RI(ts:LL)(R:Rp)(qs:LL)(n:Nat):kS ts R qs (n+1)=kS ts R qs n++[(iY ts R qs n).av]:=by unfold kS;rw[List.range_succ];simp
def dz(l:Li)(a:As)(i:Int)(j0 j:Jt):Rp:=⟨cw l i j,ai l j0 i,P2.l (aw l a j0 i),sh 0 (bP l i j0 j:Rat),sX (bY l a i j0 j),P2.l (bT l a i j0 j)⟩
def bw(l:Li)(a:As)(i:Int)(j0 j:Jt):Et (llq a.rs):=qE (ft l i j)*bY l a i j0 j-qE (bP l i j0 j)*qE (bP l i j0 j)
def lF(l:Li)(a:As)(i:Int)(j0 j:Jt):List AV×Nat :=
  if ao (bY l a i j0 j)=0/\ao (qE (bP l i j0 j):Et (llq a.rs))=0 then([],15)
  else if ao (bw l a i j0 j)<0 then([],0)
  else if 0<ao (bw l a i j0 j)then(kS (aU (llq a.rs) (sX (bw l a i j0 j))) (dz l a i j0 j) [cC (llq a.rs).length,sX (-bE (bw l a i j0 j))] 2,0)
  else(kS (llq a.rs) (dz l a i j0 j) [[]] 1,0)
theorem uJ{ts:LL}{r:Nat}(tw:Tw ts r){n d h:Et ts}(hs:¬ao (n*d-h*h)<0)(h1:¬(ao d=0/\ao h=0)):ao d≠0:=by
 intro h0;have S:=eF (au ts) ts.length tw.pos
 have e1:sg (au ts) ts.length (n*d)=0:=by
  rw[S.mul];have:sg (au ts) ts.length d=0:=h0;rw[this];exact Int.mul_zero _
 have e2:=S.zadd (y:=-(h*h)) e1;rw[show n*d+-(h*h)=n*d-h*h by grind,S.neg,S.mul]at e2;have e3:ao (n*d-h*h)=sg (au ts) ts.length (n*d-h*h):=rfl;have e4:ao h=sg (au ts) ts.length h:=rfl;have h2:sg (au ts) ts.length h≠0:=fun h9=>h1 ⟨h0,by rw[e4];exact h9⟩
 rw[e3,e2]at hs;rcases S.cs h with g |g |g
 ·rw[g]at hs;exact hs (by decide)
 ·exact h2 g
 ·rw[g]at hs;exact hs (by decide)
theorem Xw{p q:Rat}(h:p*p+q*q=0):p=0/\q=0:=by
 have h1:=ov p;have h2:=ov q;have h3:p*p=0:=by grind
 have h4:q*q=0:=by grind
 exact⟨by rcases Rat.mul_eq_zero.1 h3 with g |g <;> exact g,by rcases Rat.mul_eq_zero.1 h4 with g |g <;> exact g⟩
theorem wA{l:Li}(hli:aN l=0){n:Nat}{j:Jt}(hj:l.jo[n]?=some j)(hk:j.kind≠0){i:Int}(hi:j.b=i):b9 (cw l i j) (cw l i j)≠0:=by
 intro h0;obtain⟨h1,h2⟩:=Xw h0;have h3:=DZ hli hj;subst hi;have e1:(aM l j.b j.to).1-(aM l j.b j.on).1=0:=h1;have e2:(aM l j.b j.to).2-(aM l j.b j.on).2=0:=h2;have e3:((cO l j.b).getD j.on.toNat default).x.q=((cO l j.b).getD j.to.toNat default).x.q:=by unfold aM at e1;dsimp only at e1;grind
 have e4:((cO l j.b).getD j.on.toNat default).y.q=((cO l j.b).getD j.to.toNat default).y.q:=by unfold aM at e2;dsimp only at e2;grind
 unfold eM at h3;split at h3
 ·cases h3
 ·split at h3
  ·cases h3
  ·split at h3
   ·cases h3
   ·split at h3
    ·cases h3
    ·split at h3
     ·cases h3
     ·first |(rw[ab6 ⟨e3,e4⟩]at h3;cases h3) |(split at h3 <;> first |(cases h3;done) |(rename_i g;exact acc ⟨e3,e4⟩ g))
theorem Vp:Sub (.lst 1 [nS]) (.lst 1 [nA []]):=by
 refine Sub.lst rfl (fun i x y hx hy=>?_)
 match i,hx,hy with
 |0,hx,hy =>
  cases hx;cases hy
  refine⟨rfl,fun j x y hx hy=>?_⟩
  match j,hx,hy with
  |0,hx,hy=>cases hx;cases hy;exact⟨rfl,.nil _ _ _⟩
theorem WD{x y:Int}(h:cond (aa .eql x 0) (aa .eql y 0) false=true):x=0/\y=0:=by
 cases h1:aa .eql x 0
 ·rw[h1]at h;cases h
 ·rw[h1]at h;exact⟨cM h1,cM h⟩
theorem Nk{x y:Int}(h:cond (aa .eql x 0) (aa .eql y 0) false=false):¬(x=0/\y=0):=by
 rintro⟨rfl,rfl⟩;cases h
structure RpF(l:Li)(a:As)(i:Int)(j0 j:Jt):Prop where
  hv:Sm 3000 (cw l i j)
  hp:Sm 3000 (ai l j0 i)
  vv:b9 (cw l i j) (cw l i j)≠0
  zl:Zl (llq a.rs) 310000 65000 (sh 0 (bP l i j0 j:Rat)) (qE (bP l i j0 j)) 3 0
  z3:Zu 310000 65000 (bY l a i j0 j) 320 327
  zX:Zu 310000 65000 (bw l a i j0 j) 976 989
  w1:Zu 310000 65000 (bT l a i j0 j).1 80 81
  w2:Zu 310000 65000 (bT l a i j0 j).2 80 81
  y1:Zu 310000 65000 (aw l a j0 i).1 40 40
  y2:Zu 310000 65000 (aw l a j0 i).2 40 40
theorem J8{l:Li}{a:As}(D:DyR l a)(hn:(llq a.rs).length<=1){g:Gr}{i z0 z1:Int}{j0 j:Jt}(P:SlP 3900000 l a g 3 i z0 z1 j0 j)(hj:j.b=i)(hb:Pd 3900000 a j.a):RpF l a i j0 j:=by
 haveI c:=D.s.ct D.hc;have ck:=c.k1;haveI cy:Cy (llq a.rs) 310000 65000:=⟨c.ex,c.k1,c.u3,by omega⟩
 have hs0:Sm 1000 (ai l j0 i):=d7 D.hl D.li P.h0 P.p0.or;obtain⟨i1,i2,i3,i4,i5⟩:=cF D.li P.h1;have hs1:Sm 1000 (aM l i j.on):=by rw[<- hj];exact iu D.hl D.li i2 i4
 have hs2:Sm 1000 (aM l i j.to):=by rw[<- hj];exact iu D.hl D.li i2 (i5 P.hk)
 have hv:Sm _ (cw l i j):=hs2.sub hs1;haveI qn:Qz 310000 (ft l i j) 3:=oR (hv.dot hv) oz;haveI qh:Qz 310000 (bP l i j0 j) 3:=oR (hv.cross (hs1.sub hs0)) oz;obtain⟨w1,w2⟩:=Hc D P.h0 P.p0 P.h1 hb;obtain⟨y1,y2⟩:=mI D.hl D.li D.al D.s D.hc P.h0 P.p0;haveI:=w1;haveI:=w2
 haveI z3:Zu 310000 65000 (bY l a i j0 j) 320 327:=(ace:Zu 310000 65000 (dotE (bT l a i j0 j).1 (bT l a i j0 j).2 (bT l a i j0 j).1 (bT l a i j0 j).2) _ _)
 exact⟨hv.mono oz,hs0.mono oz,wA D.li P.h1 P.hk hj,Cy.zq,z3,Bf (ace:Zu 310000 65000 (qE (ft l i j)*bY l a i j0 j-qE (bP l i j0 j)*qE (bP l i j0 j)) _ _) (by decide) (by decide),w1,w2,y1,y2⟩
theorem Ig{l:Li}{a:As}{i:Int}{j0 j:Jt}(F:RpF l a i j0 j)(tw:Tw (llq a.rs) 64990)(hn:(llq a.rs).length<=1)(hd0:ao (bY l a i j0 j)≠0)(hp:0<=ao (bw l a i j0 j)) :
  ExtP (bw l a i j0 j)/\RqP (aU (llq a.rs) (sX (bw l a i j0 j))) (dz l a i j0 j) (cC (llq a.rs).length)/\RqP (aU (llq a.rs) (sX (bw l a i j0 j))) (dz l a i j0 j) (sX (-bE (bw l a i j0 j))) /\
  FP 128 [aT (aU (llq a.rs) (sX (bw l a i j0 j))),nA (cC (llq a.rs).length)] (.tup [nA (sX (-bE (bw l a i j0 j))),.v .nilIface]):=by
 have E:ExtP (bw l a i j0 j):=uZ tw hn F.zX hp;have ce:=E.cy;have zr:Nm (aU (llq a.rs) (sX (bw l a i j0 j))).length 773000000 (cC (llq a.rs).length):=(ud oz).mono (by decide);haveI zrl:Zl (aU (llq a.rs) (sX (bw l a i j0 j))) 773000000 1101400000 (cC (llq a.rs).length) (bE (bw l a i j0 j)) 1 0:=Zl.at zr (by decide);haveI:=zrl.zu;have hng:=KG (ts:=aU (llq a.rs) (sX (bw l a i j0 j))) (u:=773000000) (k:=1101400000) (a:=cC (llq a.rs).length) (by decide);have zn:Nm (aU (llq a.rs) (sX (bw l a i j0 j))).length 773000000 (sX (-bE (bw l a i j0 j))):=(ace:Zu 773000000 1101400000 (-bE (bw l a i j0 j)) 1 0).nm.mono (by decide)
 have hR:∀q,Nm (aU (llq a.rs) (sX (bw l a i j0 j))).length 773000000 q->RqP (aU (llq a.rs) (sX (bw l a i j0 j))) (dz l a i j0 j) q:=fun q nq =>
  HV (R := dz l a i j0 j) (j := (llq a.rs).length) ce F.hv F.hp F.vv nq (mx (F.zl.nm.mono (by decide)) oz) (mx (F.z3.nm.mono (by decide)) oz) (mx (F.w1.nm.mono (by decide)) oz) (mx (F.w2.nm.mono (by decide)) oz)
   (mx (F.y1.nm.mono (by decide)) oz) (mx (F.y2.nm.mono (by decide)) oz) (vK hn _ _ F.y1.nm).2 (vK hn _ _ F.y2.nm).2 F.z3.nm.nl (by rw[dQ];omega) hn (by rw[show ao (dE (aU (llq a.rs) (sX (bw l a i j0 j))) (dz l a i j0 j).d)=ao (bY l a i j0 j)from o8];exact hd0)
 exact⟨E,hR _ zr,hR _ zn,hng⟩
theorem JB{l:Li}{a:As}{i:Int}{j0 j:Jt}(F:RpF l a i j0 j)(tw:Tw (llq a.rs) 64990)(hn:(llq a.rs).length<=1)(hd0:ao (bY l a i j0 j)≠0):Cy (llq a.rs) 773000000 1101400000/\RqP (llq a.rs) (dz l a i j0 j) []:=by
 have cs:Cy (llq a.rs) 773000000 1101400000:=⟨⟨64990,tw,by show kB 64990 (llq a.rs).length<=_;have:=zR hn;omega⟩,by omega,by omega,by omega⟩
 have nil0:Nm (llq a.rs).length 773000000 []:=⟨tw.five,.inl rfl,Cb.nil.mono oz⟩
 exact ⟨cs, HV (R := dz l a i j0 j) (j := (llq a.rs).length) cs F.hv F.hp F.vv nil0 (F.zl.nm.mono (by decide)) (F.z3.nm.mono (by decide)) (F.w1.nm.mono (by decide)) (F.w2.nm.mono (by decide))
   (F.y1.nm.mono (by decide)) (F.y2.nm.mono (by decide)) (AA _ _ F.y1.nm).2 (AA _ _ F.y2.nm).2 F.z3.nm.nl (aau _) hn (by rw[show ao (dE (llq a.rs) (dz l a i j0 j).d)=ao (bY l a i j0 j)from acd ao (bh _ _)];exact hd0)⟩
theorem QB{l:Li}{a:As}(D:DyR l a)(hn:(llq a.rs).length<=1){i z0 z1:Int}{j0 j:Jt}(hg:GrOk l ⟨3,[i],[z0,z1],0⟩)(P:SlP 3900000 l a ⟨3,[i],[z0,z1],0⟩ 3 i z0 z1 j0 j)(hj:j.b=i)(hb:Pd 3900000 a j.a) :
  Con prog 282 [.ptr 1000 0] [pP 1000 (ci l ⟨3,[i],[z0,z1],0⟩ a)] (ra (lF l a i j0 j)) [pP 1000 (ci l ⟨3,[i],[z0,z1],0⟩ a)]:=by
 haveI c:=D.s.ct D.hc;obtain⟨tw,etw⟩:=db D.s.tr D.hc;haveI cy:Cy (llq a.rs) 310000 65000:=⟨c.ex,c.k1,c.u3,by omega⟩
 have hlm:=cy.lm;have F:=J8 D hn P hj hb;obtain⟨i1,i2,i3,i4,i5⟩:=cF D.li P.h1;have hs0:Sm 1000 (ai l j0 i):=d7 D.hl D.li P.h0 P.p0.or;have hs1:Sm 1000 (aM l i j.on):=by rw[<- hj];exact iu D.hl D.li i2 i4
 have hs2:Sm 1000 (aM l i j.to):=by rw[<- hj];exact iu D.hl D.li i2 (i5 P.hk)
 have hv:Sm _ (cw l i j):=hs2.sub hs1;haveI qn:Qz 310000 (ft l i j) 3:=oR (hv.dot hv) oz;haveI qh:Qz 310000 (bP l i j0 j) 3:=oR (hv.cross (hs1.sub hs0)) oz;haveI z3:=F.z3;haveI zX:=F.zX;haveI zl:=F.zl;have hrr:=MI D (i:=i) (j0:=j0) (j:=j) (by decide);have m1:=zK (ts:=llq a.rs) (u:=310000) (k:=65000) (a:=sX (bw l a i j0 j)) (by decide);have m2:=zK (ts:=llq a.rs) (u:=310000) (k:=65000) (a:=sX (bY l a i j0 j)) (by decide);have m3:=zK (ts:=llq a.rs) (u:=310000) (k:=65000) (a:=sh 0 (bP l i j0 j:Rat)) (by decide);refine gF func282 (fun k z h=>bO h) ?_ (2,0);refine gW (Wk.o (sl:=[pP 0 (.ptr 1000 0),pP 4 (.ptr 24 0)]) (hp:=[pP 1000 (ci l ⟨3,[i],[z0,z1],0⟩ a),pP 24 (bR a.rs)])) ?_;refine gt (aE (Con.rekeyBB 1000 24 (by decide) (by decide) rfl rfl rfl rfl rfl rfl (LI D hg P.h0 P.h1 P.p0 hj P.hk hb)) (bC rfl rfl) aG rfl rfl) ?_;refine gt (aE (Con.rekeyB1 24 rfl rfl rfl rfl rfl hrr) (bC rfl rfl) aG rfl rfl) ?_ (4,0);refine gW (Wk.of (sl:=[pP 4 (.ptr 24 0),pP 5 (.ptr 5 0),pP 6 (nA (sX (bw l a i j0 j)))]) (hp:=[pP 1000 (ci l ⟨3,[i],[z0,z1],0⟩ a),pP 5 (.box (pz l a i j0 j)),pP 24 (bi (llq a.rs))]) bb (.k (.k (.cons rfl (BlkSub.bL (.cons (.of (mt etw)) (.cons (.refl _) .nil)) rfl) .nil)))) ?_;refine gt (aV (Con.rB 24 rfl rfl rfl rfl m1) (bC rfl rfl) rfl rfl rfl) ?_;refine gf ?_;refine gt (aV (Con.rB 24 rfl rfl rfl rfl m2) (bC rfl rfl) rfl rfl rfl) ?_;refine gu (fa rfl rfl rfl (fun h=>aV (Con.rB 24 rfl rfl rfl rfl m3) (.cons (.opt rfl (o1 h)) (.cons (.opt rfl (o1 h)) .nil)) rfl rfl rfl)) ?_;refine gC (fun y=>?_) (fun y=>?_)
 ·have h1:=WD y;refine gR ?_;exact(aC.keep (bq rfl)).sub (by unfold lF;rw[ab6 h1];exact Sub.tup (.cons (.nil _ _ _) (.cons (.refl _) .nil)))
 have h1:=Nk y;refine gC (fun y=>?_) (fun y=>?_)
 ·have h2:ao (bw l a i j0 j)<0:=ab8 y;refine gR ?_;exact(aC.keep (bq rfl)).sub (by unfold lF;rw[ab5 h1,ab6 h2];exact Sub.tup (.cons (.nil _ _ _) (.cons (.refl _) .nil)))
 have h2:¬ao (bw l a i j0 j)<0:=ab9 y;have hd0:ao (bY l a i j0 j)≠0:=uJ tw h2 h1;refine AN [4,5] [1000,5] (fun(T:LL)(qs:LL)=>[pP 8 (.lst 1 (qs.map nA))]) (fun T _=>[pP 24 (bi T)]) (fun T qs=>Cy T 773000000 1101400000/\qs.length<=2/\(∀q∈qs,RqP T (dz l a i j0 j) q)/\lF l a i j0 j=(kS T (dz l a i j0 j) qs qs.length,0)) ?_ ?_
 ·intro K1 J1;refine gC (fun y=>?_) (fun y=>?_)
  ·have h3:0<ao (bw l a i j0 j):=ab8 y;obtain⟨E,R1,R2,hng⟩:=Ig F tw hn hd0 oz;have ce:=E.cy;have hex:=Kg (a:=sX (bw l a i j0 j)) tw zX.nm (by rw[hlm];decide) (by rw[show ae (llq a.rs).length (sX (bw l a i j0 j))=bw l a i j0 j from bh _ _];show 0<=ao (bw l a i j0 j);omega);refine gc hex ?_;refine gf ?_;refine gc hng ?_;refine gt (aV (Con.rB 24 rfl rfl rfl rfl (rS _ _)) (aJ rfl rfl rfl) rfl rfl rfl) ?_;exact rG J1 (aU (llq a.rs) (sX (bw l a i j0 j))) ([cC (llq a.rs).length,sX (-bE (bw l a i j0 j))]) ⟨ce,aau 2,lT R1 R2,by unfold lF;rw[ab5 h1,ab5 h2,ab6 h3];rfl⟩
  have h3:¬0<ao (bw l a i j0 j):=ab9 y;obtain⟨cs,R0⟩:=JB F tw hn hd0;exact rG J1 (llq a.rs) ([[]]) ⟨cs,by decide,iP R0,by unfold lF;rw[ab5 h1,ab5 h2,ab5 h3];rfl⟩ (hw:=Wk.of (.cons rfl Vp (.k (.k .nil))) (.k (.k (.k .nil))))
 rintro T qs ⟨ct,hql,hq,hR⟩;obtain⟨rr,twT,hkT⟩:=ct.ex;refine gl ?_;refine gW (Wk.virt 900 3 rfl) ?_;refine aW [4,5,8,90,91] [1000,5,24] (fun(q:Nat)=>[pP 12 (.ms 900 3 0 q),pP 92 (i64 q)]) (fun q=>[pP 900 (.row 3 (kS T (dz l a i j0 j) qs q))]) (fun q=>q<=qs.length) (fun q=>qs.length-q) 0 (aa0 _) ?_;rintro q hqi K2 J2;refine gC (fun y=>?_) (fun y=>?_) (st2:=(28,0))
 ·have hin:=a9 y;obtain ⟨x,hx⟩:=ay hin;have hx9:qs.getD q [] = x:=aq hx;have R:=hq x (aap hx);refine gi (aH hx) ?_;refine gc R.c1 ?_;refine gt (aV (Con.rB 24 rfl rfl rfl rfl (vT _ _ _)) (aJ rfl rfl rfl) rfl rfl rfl) ?_;refine gD ?_;refine gc R.ng ?_;refine gt (aV (Con.rB 24 rfl rfl rfl rfl (rS _ _)) (aJ rfl rfl rfl) rfl rfl rfl) ?_;refine gc R.c2 ?_;refine gt (aV (Con.rB 24 rfl rfl rfl rfl (vT _ _ _)) (aJ rfl rfl rfl) rfl rfl rfl) ?_;refine gD ?_;refine gc R.sb ?_;refine gt (aV (Con.rB 24 rfl rfl rfl rfl (vT _ _ _)) (aJ rfl rfl rfl) rfl rfl rfl) ?_;refine gD ?_;refine gt (aV (Con.rB 24 rfl rfl rfl rfl (xj R.d1)) (aJ rfl rfl rfl) rfl rfl rfl) ?_;refine gt (aV (Con.rB 24 rfl rfl rfl rfl (xj R.d2)) (aJ rfl rfl rfl) rfl rfl rfl) ?_;refine gD ?_;refine gc (zo twT) ?_;refine gt (aV (Con.rB 24 rfl rfl rfl rfl R.body) (.cons (.tmp rfl) (.cons (.tmp rfl) (.cons (.tmp rfl) (.cons (.tmp rfl) (.cons (.tmp rfl) .nil))))) rfl rfl rfl) ?_;refine gl ?_;refine gc (If q qs.length oz) ?_;refine gs (cK (.tmp rfl) rfl (CQ _ _ _ _).symm (.tmp rfl) T252 rfl T257 rfl rfl (by dsimp only; simp only [aa4,abg]; omega) rfl rfl) ?_;refine gD ?_ (27,0);refine gW (Wk.of (sl:=[pP 4 (.ptr 24 0),pP 5 (.ptr 5 0),pP 8 (.lst 1 (qs.map nA)),pP 12 (.ms 182 3 0 (q + 1)),pP 90 (.lst 1 (qs.map nA)),pP 91 (i64 qs.length),pP 92 (i64 q)]) (hp:=[pP 1000 (ci l ⟨3,[i],[z0,z1],0⟩ a),pP 5 (.box (pz l a i j0 j)),pP 24 (bi T),pP 182 (.row 3 (kS T (dz l a i j0 j) qs (q + 1)))]) bb (.k (.k (.k (.cons rfl (BlkSub.of (by rw [RI]; unfold iY; rw [hx9]; rfl)) .nil))))) ?_ (27,0)
  refine gW (Wk.rk (k:=182) (d:=900) rfl rfl) ?_;refine ga aS ?_;exact aR J2 (q+1) hin
 have hin:=bn hqi y;subst hin;refine gW ((Wk.freeze (k:=900) rfl).trans<|Wk.of (sl:=[pP 4 (.ptr 24 0),pP 12 (.lst 3 (kS T (dz l a i j0 j) qs qs.length))]) (hp:=[pP 1000 (ci l ⟨3,[i],[z0,z1],0⟩ a),pP 24 (bi T)]) (.k (.cons rfl (Sub.of (by rw[b7 (CQ _ _ _ _).symm])) .nil)) (.k (.k .nil))) ?_;refine gf ?_;refine gR ?_;exact(aC.keep (bq rfl)).sub (Sub.of (by rw[hR];rfl))
theorem Wx:Sub (.agg [bl (rt ((1:Int):Rat)).neg,ws (rt ((1:Int):Rat)).num,ws (rt ((1:Int):Rat)).den,.v (.bool false),nS,nS]) (qP (((1:Int):Rat),0)) :=
 Sub.agg (.cons (.refl _) (.cons (.refl _) (.cons (.refl _) (.cons (.refl _) (.cons (Sub.nil _ _ _) (.cons (Sub.nil _ _ _) .nil)))))) rfl
theorem lL{ts:LL}(q:Rat):sX (qE q:Et ts)=sh 0 (q:Rat):=BB _ _
def lK(l:Li)(a:As)(i:Int)(j0:Jt)(x:Tn):Pq:=gL (((1:Int):Rat),0) ((qE (dW x.half x.t.q),qE (dR x.half x.t.q)):P2 (llq a.rs)) (ai l j0 i) (aw l a j0 i)
def o6(l:Li)(a:As)(i:Int)(j0:Jt)(x:Tn):List AV×Nat:=if x.err≠0 then([],x.err)else([(⟨llq a.rs,[lK l a i j0 x],1⟩:Sv).av],0)
theorem XO{l:Li}{g:Gr}{a:As}{x:Tn}(hx:x.t.ok)(hq:Qb 1000 x.t.q)(he:x.err≠0) :
  Con prog 279 [.ptr 1000 0,x.av] [pP 1000 (ci l g a)] (.tup [.lst 3 [],bF x.err]) [pP 1000 (ci l g a)]:=by
 refine gF func279 (fun k z h=>bO h) ?_;refine gc (BU x hx hq oz) ?_;refine gC (fun y=>?_) (fun y=>?_) (st2:=(77777,0))
 ·refine gR ?_;exact(aC.keep (bq rfl)).sub (Sub.tup (.cons (.nil _ _ _) (.cons (.refl _) .nil)))
 exact acc (dD y) he
theorem EZ:Sm 3000 (((1:Int):Rat),(0:Rat)):=⟨Qb.one.mono oz,Qb.mono (e:=1) (q:=0) ⟨by decide,by decide⟩ oz⟩
theorem Jq{E:Nat}(hE:E<=20000000000){l:Li}{a:As}(D:DyW l a)(h3:(llq a.rs).length<=2){body pt:Int}(h1:bA body l.bo.length=true)(h2:bA pt (cO l body).length=true)(hb:Pd E a body) :
  Nm (llq a.rs).length 62500000000 (sX (aZ l a body pt).1)/\Nm (llq a.rs).length 62500000000 (sX (aZ l a body pt).2):=by
 obtain⟨n,k,bd,m,b,hp⟩:=p8 D.hl D.li D.al D.hc h1 h2 hb;obtain⟨tw,_⟩:=db D.al.tr D.hc;have kb:=oM h3;have qx:Qb 1000 m.x.q:=by rw[hp.mp.ex,cc];exact hp.mp.sm.x
 have qy:Qb 1000 m.y.q:=by rw[hp.mp.ey,cc];exact hp.mp.sm.y
 have h:=uG tw hp.ok qx qy;unfold aZ;rw[hp.eq];exact⟨h.1.mono oz,h.2.mono oz⟩
theorem Qm{E:Nat}(hE:E<=20000000000){l:Li}{a:As}(D:DyW l a)(h3:(llq a.rs).length<=2){i:Nat}{j:Jt}(hj:l.jo[i]?=some j){b:Int}(h:PinP E l a j b) :
  Nm (llq a.rs).length 62500000000 (sX (aw l a j b).1)/\Nm (llq a.rs).length 62500000000 (sX (aw l a j b).2):=by
 obtain⟨i1,i2,i3,i4,_⟩:=cF D.li hj;unfold aw;rcases h.tie with⟨e,hb⟩ |⟨e,e2,hb⟩
 ·rw[ab6 e];exact Jq hE D h3 i2 i4 hb
 ·rw[ab5 e];exact Jq hE D h3 i1 i3 hb
theorem Jn{E:Nat}(hE:E<=20000000000){l:Li}{a:As}(D:DyW l a)(h3:(llq a.rs).length<=2){n:Nat}{i:Int}{j0:Jt}(h0:l.jo[n]?=some j0)(p0:PinP E l a j0 i){x:Tn}(hq:Qb 1000 x.t.q) :
  BdP (llq a.rs) (((1:Int):Rat),(0:Rat)) ((qE (dW x.half x.t.q),qE (dR x.half x.t.q)):P2 (llq a.rs)) (ai l j0 i) (aw l a j0 i):=by
 obtain⟨tw,etw⟩:=db D.al.tr D.hc;have qc:=tM (half:=x.half) hq;have qs:=tY (half:=x.half) hq;have hs0:Sm 1000 (ai l j0 i):=d7 D.hl D.li h0 p0.or;obtain⟨y1,y2⟩:=Qm hE D h3 h0 p0
 exact Iy (F := 80000000000) (W := 10000) (u := (((1 : Int) : Rat), (0 : Rat))) (p := ai l j0 i) (w := ((qE (dW x.half x.t.q), qE (dR x.half x.t.q)) : P2 (llq a.rs))) (o := aw l a j0 i) tw h3 (oM h3) EZ (hs0.mono oz) (by decide +kernel)
  (by show Nm _ _ (sX (qE (dW x.half x.t.q):Et (llq a.rs)));rw[lL];exact(oV tw.five qc).mono oz) (by show Nm _ _ (sX (qE (dR x.half x.t.q):Et (llq a.rs)));rw[lL];exact(oV tw.five qs).mono oz) y1 y2 oz oz oz
theorem Oi{E:Nat}(hE:E<=20000000000){l:Li}{a:As}(D:DyW l a)(h3:(llq a.rs).length<=2){i z0 d:Int}{j0:Jt}(hg:GrOk l ⟨0,[i],[z0],d⟩)(h0:l.jo[z0.toNat]?=some j0)(p0:PinP E l a j0 i){x:Tn}(hx:x.t.ok)(hq:Qb 1000 x.t.q)(he:x.err=0) :
  Con prog 279 [.ptr 1000 0,x.av] [pP 1000 (ci l ⟨0,[i],[z0],d⟩ a)] (.tup [.lst 3 [(⟨llq a.rs,[lK l a i j0 x],1⟩:Sv).av],.v .nilIface]) [pP 1000 (ci l ⟨0,[i],[z0],d⟩ a)]:=by
 obtain⟨tw,etw⟩:=db D.al.tr D.hc;have hc:=BU x hx hq oz;rw[ab6 he,he]at hc;have hs:=HY x hx hq oz;rw[ab6 he,he]at hs;have qc:=tM (half:=x.half) hq;have qs:=tY (half:=x.half) hq;have hs0:Sm 1000 (ai l j0 i):=d7 D.hl D.li h0 p0.or;have hb:=Az EZ (hs0.mono oz) (Jn hE D h3 h0 p0 hq)
 have ew:dC (P2.l ((qE (dW x.half x.t.q),qE (dR x.half x.t.q)):P2 (llq a.rs)))=aD (sh 0 (dW x.half x.t.q:Rat)) (sh 0 (dR x.half x.t.q:Rat)):=by
  show aD (sX (qE (dW x.half x.t.q):Et (llq a.rs))) (sX (qE (dR x.half x.t.q):Et (llq a.rs)))=_;rw[lL,lL]
 rw[ew]at hb;have hcl:=zo tw;have hcl2:FP 375 [cI a.rs] (aT (llq a.rs)):=by rw[etw];exact hcl
 refine gF func279 (fun k z h=>bO h) ?_;refine gc hc ?_;refine gf ?_;refine gc hs ?_;refine gf ?_;refine gi rfl ?_;refine gt (aV (uO hE D.hl D.li _ hg D.al D.hc (k:=0) rfl h0 h3 p0) (.cons (.tmp rfl) (.cons (.const _) (cG rfl))) rfl rfl rfl) ?_;refine gD ?_ (9,0);refine gW (Wk.of (sl:=[pP 0 (.ptr 1000 0),pP 6 (.ptr 6 0),pP 8 (.ptr 8 0),pP 9 (.ptr 9 0),pP 10 (.ptr 10 0),pP 11 (.ptr 52 0)]) (hp:=[pP 1000 (ci l ⟨0,[i],[z0],d⟩ a),pP 6 (.box [bl (rt (dW x.half x.t.q)).neg,ws (rt (dW x.half x.t.q)).num,ws (rt (dW x.half x.t.q)).den]),pP 8 (.box [bl (rt (dR x.half x.t.q)).neg,ws (rt (dR x.half x.t.q)).num,ws (rt (dR x.half x.t.q)).den]),pP 9 (.box (qC (ai l j0 i))),pP 10 (.box [nA (sX (aw l a j0 i).1),nA (sX (aw l a j0 i).2)]),pP 52 (bi (llq a.rs))]) bb (.k (.k (.k (.k (.k (.cons rfl (BlkSub.bL (.cons (.of (mt etw)) (.cons (.refl _) .nil)) rfl) .nil))))))) ?_
 refine gc (kH 1 oz) ?_;refine gc (v9 (qc.qs oz) (qs.qs oz)) ?_;refine gt (aV (Con.rB 52 rfl rfl rfl rfl (Con.sA (.cons (.refl _) (.cons Wx (.cons (.refl _) (.cons (.refl _) (.cons (.refl _) .nil))))) hb)) (.cons (.tmp rfl) (.cons (.tmp rfl) (.cons (.tmp rfl) (.cons (.tmp rfl) (.cons (.tmp rfl) .nil))))) rfl rfl rfl) ?_;refine gD ?_;refine gf ?_;refine gc hcl2 ?_;refine gD ?_;refine gR ?_;exact aC.keep (bq rfl)
theorem SR{E:Nat}(hE:E<=20000000000){l:Li}{a:As}(D:DyW l a)(h3:(llq a.rs).length<=2){i z0 d:Int}{j0:Jt}(hg:GrOk l ⟨0,[i],[z0],d⟩)(h0:l.jo[z0.toNat]?=some j0)(p0:PinP E l a j0 i){x:Tn}(hx:x.t.ok)(hq:Qb 1000 x.t.q) :
  Con prog 279 [.ptr 1000 0,x.av] [pP 1000 (ci l ⟨0,[i],[z0],d⟩ a)] (ra (o6 l a i j0 x)) [pP 1000 (ci l ⟨0,[i],[z0],d⟩ a)]:=by
 by_cases he:x.err=0
 ·have h:=Oi hE D h3 hg h0 p0 hx hq he;unfold o6;rw[ab5 oz];exact h
 ·have h:=XO (l:=l) (g:=⟨0,[i],[z0],d⟩) (a:=a) hx hq he;unfold o6;rw[ab6 he];exact h
def jY(l:Li)(a:As)(g:Gr)(x:Tn):List AV×Nat :=
  if g.kind=0 then o6 l a (aL g 0) (am l g 0) x
  else if g.kind=1 then oe l a (aL g 0) (aL g 1) (am l g 0) (am l g 1) (am l g 2)
  else if g.kind=2 then mT l a (aL g 0) (am l g 0) (am l g 1)
  else lF l a (aL g 0) (am l g 0) (am l g 1)
theorem BF{E:Nat}{l:Li}{k:Int}{a:As}{own:Bool}{n:Nat}{g:Gr}(h:DyOk E l k a own n g)(hk:g.kind=0):∃i z0 d j0,g=⟨0,[i],[z0],d⟩/\l.jo[z0.toNat]?=some j0/\PinP E l a j0 i:=by
 have hd:=h.dy;cases hd with
 |rrr _ _ _ _ _ _ _=>exact acc hk (by simp)
 |pr _ _ _=>exact acc hk (by simp)
 |rp _ _ _=>exact acc hk (by simp)
 | @drv b z d j x t d0 hd hb=>exact⟨b,z,d,j,rfl,t.hj,h.pin rfl t (by simp) (by simp)⟩
theorem Tk{l:Li}{k:Int}{x:Tn}{a:As}{E:Nat}(hop:FP 90 [l.av,i64 k,a.av,bl false] (.tup [.v (.pointer none),bF E]))(h0:E≠0) :
  FP 153 [l.av,i64 k,x.av,a.av] (.tup [.lst 3 [],bF E]):=by
 refine aj func153 ?_;refine gc hop ?_;refine gC (fun z=>?_) (fun z=>?_) (st2:=(77777,0))
 ·refine gR ?_;exact dS (Sub.tup (.cons (.nil _ _ _) (.cons (.refl _) .nil)))
 exact acc (dD z) h0
theorem UI{E:Nat}(hE:E<=20000000000){l:Li}{k:Int}{a:As}{n:Nat}{g:Gr}{x:Tn}(hx:x.t.ok)(hq:Qb 1000 x.t.q)(h3:(llq a.rs).length<=2)(hR:g.kind≠0->E=3900000/\DyS a)(hop:Con prog 90 [l.av,i64 k,a.av,bl false] [] (.tup [.ptr 900 0,.v .nilIface]) [pP 900 (ci l g a)])(D:DyW l a)(ok:DyOk E l k a false n g) :
  FP 153 [l.av,i64 k,x.av,a.av] (ra (jY l a g x)):=by
 have hgo:=ok.ok;refine aj func153 ?_;refine gt (aE hop (.cons (.tmp rfl) (.cons (.tmp rfl) (.cons (.tmp rfl) (.cons (.const _) .nil)))) aG rfl rfl) ?_ (2,0);refine gW (Wk.o (sl:=[pP 6 (.ptr 6 0),pP 10 (.ptr 900 0),pP 11 (.v .nilIface)]) (hp:=[pP 6 (.box x.av.cells),pP 900 (ci l g a)])) ?_;refine gf ?_;refine gC (fun z=>?_) (fun z=>?_)
 ·have hk:g.kind = 0:=cM z;obtain ⟨i,z0,d,j0,e,hj0,p0⟩:=BF ok hk;have eR:jY l a g x = o6 l a i j0 x:=by unfold jY; rw [ab6 hk,e]; show o6 l a i (l.jo.getD z0.toNat default) x = _; rw [aq hj0]
  subst e;refine gt (aV (Con.rB 900 rfl rfl rfl rfl (SR hE D h3 hgo hj0 p0 hx hq)) (bC rfl rfl) rfl rfl rfl) ?_;refine gR ?_;exact dS (Sub.of (by rw[eR];rfl))
 have hk0:g.kind≠0:=dk z;obtain⟨hE9,S⟩:=hR hk0;subst hE9;have D:DyR l a:=⟨D,S⟩
 have hn:=S.one D.hc;refine gC (fun z=>?_) (fun z=>?_)
 ·have hk:g.kind = 1:=cM z;obtain ⟨i,k2,z0,z1,z2,j0,j1,j2,P⟩:=ok.rrr hk;obtain ⟨e0,e1,e2,b0,b1,_⟩:=P.at;have eR:jY l a g x = oe l a i k2 j0 j1 j2:=by unfold jY; rw [ab5 hk0,ab6 hk,e0,e1,e2,b0,b1]
  have e:=P.eq;subst e;refine gt (aV (Con.rB 900 rfl rfl rfl rfl (QF D hn hgo P)) (cG rfl) rfl rfl rfl) ?_;refine gR ?_;exact dS (Sub.of (by rw[eR];rfl))
 have hk1:g.kind≠1:=dk z;refine gC (fun z=>?_) (fun z=>?_)
 ·have hk:g.kind = 2:=cM z;obtain ⟨i,z0,z1,j0,j,P,ha,hb⟩:=ok.pr hk;obtain ⟨e0,e1,b0,_⟩:=P.at;have eR:jY l a g x = mT l a i j0 j:=by unfold jY; rw [ab5 hk0,ab5 hk1,ab6 hk,e0,e1,b0]
  have e:=P.eq;subst e;refine gt (aV (Con.rB 900 rfl rfl rfl rfl (RX D hn hgo P ha hb)) (cG rfl) rfl rfl rfl) ?_;refine gR ?_;exact dS (Sub.of (by rw[eR];rfl))
 have hk2:g.kind≠2:=dk z;obtain⟨i,z0,z1,j0,j,P,_,hj,hb⟩:=ok.rp hk0 hk1 hk2;obtain⟨e0,e1,b0,_⟩:=P.at;have eR:jY l a g x=lF l a i j0 j:=by unfold jY;rw[ab5 hk0,ab5 hk1,ab5 hk2,e0,e1,b0]
 have e:=P.eq;subst e;refine gt (aV (Con.rB 900 rfl rfl rfl rfl (QB D hn hgo P hj hb)) (cG rfl) rfl rfl rfl) ?_;refine gR ?_;exact dS (Sub.of (by rw[eR];rfl))
def wR(l:Li)(k:Int)(x:Tn)(a:As):List AV×Nat:=if fP l k a false=0 then jY l a (iA l k) x else([],fP l k a false)
theorem Mz(l:Li)(hl:l.ok)(k:Int){x:Tn}(hx:x.t.ok)(hq:Qb 1000 x.t.q)(a:As)(al:AB a)(h3:bM a.rs=0->(llq a.rs).length<=2){E:Nat}(hE:E<=20000000000)(hs:sa E l k a false)(hR:fP l k a false=0->(iA l k).kind≠0->E=3900000/\DyS a) :
  FP 153 [l.av,i64 k,x.av,a.av] (ra (wR l k x a)):=by
 have hop:=A9 l hl k a al false;unfold wR
 by_cases h0:fP l k a false=0
 ·obtain ⟨n, g, ok⟩:=vF hs h0;have hgA:iA l k = g:=by unfold iA; rw [ok.hk,abn]; exact aq ok.hg
  have hR:=hR h0;rw[hgA]at hR;rw[h0,hgA]at hop;rw[ab6 h0,hgA];exact UI hE hx hq (h3 ok.chk) hR hop ⟨hl,ok.li,al,ok.chk⟩ ok
 ·rw[lW h0,qr h0]at hop;rw[ab5 h0];exact Tk hop h0
structure SvOk(s:Sv):Prop where
  tw:∃r,Tw s.ts r
  two:s.ts.length<=2
  ps:∀p∈s.ps,Pq.ok s.ts.length 80000000000 p
  ln:s.ps.length<=2
theorem xl(ts:LL)(x:T ts.length):it ts x x=true:=by
 unfold it subT;rw[T.add_neg,T.sgn_zero];rfl
structure SolP(S:List Sv)(kd:Int)(n b:Nat):Prop where
  two:S.length<=2
  ok:∀s∈S,SvOk s
  md:∀(i:Nat)(s:Sv),S[i]?=some s->s.mode=(if kd=0 then 1 else if S.length=2 then 1-2*(i:Int)else 0)/\s.ts.length=n+(if S.length=2 then 1 else 0)/\s.ps.length=b
theorem oO(kd:Int)(n b:Nat):SolP [] kd n b:=⟨by simp,by simp,by simp⟩
theorem w7(f:Nat->Sv)(n:Nat):((List.range n).map fun i=>(f i).av)=((List.range n).map f).map Sv.av:=by rw[map_map];rfl
theorem Wb{ts:LL}(p q:P2 ts)(z z2:Et ts)(h0:fQ p q z z2=0):(er p q z z2).ts.length=ts.length+(if(er p q z z2).ps.length=2 then 1 else 0):=by
 unfold fQ l8 at h0;unfold er lQ;split
 ·rename_i hd;rw[ab6 hd]at h0;split
  ·simp
  ·rename_i hz;split
   ·rename_i hp;rw[ab6 ⟨aao.1 hz,hp⟩]at h0;cases h0
   ·simp
 ·split
  ·simp
  ·split
   ·simp
   ·simp[dQ]
theorem VM{ts:LL}(p q o:P2 ts)(z:Et ts)(h0:fR p q=0):(d8 p q o z).ts.length=ts.length+(if(d8 p q o z).ps.length=2 then 1 else 0):=by
 unfold fR at h0;unfold d8;split
 ·rename_i hd;rw[ab6 hd]at h0;cases h0
 ·split
  ·simp
  ·split
   ·simp
   ·simp[dQ]
def jT(m:Mt)(hs:List Hd):List Sv:=(List.range m.ps.length).map (j8 m hs)
def jw(l:Li)(a:As)(i k:Int)(j0 j1 j2:Jt):List Sv :=
  if gV [bX (ai l j2 i) (ai l j0 i),bX (ai l j2 k) (ai l j1 k)]=true then[]
  else if fQ (aw l a j0 i) (aw l a j1 k) (qE (ba (ai l j2 i) (ai l j0 i))) (qE (ba (ai l j2 k) (ai l j1 k)))≠0 then[]
  else jT (er (aw l a j0 i) (aw l a j1 k) (qE (ba (ai l j2 i) (ai l j0 i))) (qE (ba (ai l j2 k) (ai l j1 k)))) [⟨ai l j0 i,P2.l (aw l a j0 i),ai l j2 i⟩,⟨ai l j1 k,P2.l (aw l a j1 k),ai l j2 k⟩]
def jP(l:Li)(a:As)(i:Int)(j0 j:Jt):List Sv :=
  if gV [bX (aM l i j.point) (ai l j0 i)]=true then[]
  else if fR (aZ l a j.b j.on) (aZ l a j.b j.to)≠0 then[]
  else jT (d8 (aZ l a j.b j.on) (aZ l a j.b j.to) (aw l a j0 i) (qE (ba (aM l i j.point) (ai l j0 i)))) [⟨ai l j0 i,P2.l (aw l a j0 i),aM l i j.point⟩]
def jF(ts:LL)(R:Rp)(qs:LL):List Sv:=(List.range qs.length).map (iY ts R qs)
def jR(l:Li)(a:As)(i:Int)(j0 j:Jt):List Sv :=
  if ao (bY l a i j0 j)=0/\ao (qE (bP l i j0 j):Et (llq a.rs))=0 then[]
  else if ao (bw l a i j0 j)<0 then[]
  else if 0<ao (bw l a i j0 j)then jF (aU (llq a.rs) (sX (bw l a i j0 j))) (dz l a i j0 j) [cC (llq a.rs).length,sX (-bE (bw l a i j0 j))]
  else jF (llq a.rs) (dz l a i j0 j) [[]]
def kz(l:Li)(a:As)(i:Int)(j0:Jt)(x:Tn):List Sv:=if x.err≠0 then[]else[⟨llq a.rs,[lK l a i j0 x],1⟩]
def eZ(l:Li)(a:As)(g:Gr)(x:Tn):List Sv :=
  if g.kind=0 then kz l a (aL g 0) (am l g 0) x
  else if g.kind=1 then jw l a (aL g 0) (aL g 1) (am l g 0) (am l g 1) (am l g 2)
  else if g.kind=2 then jP l a (aL g 0) (am l g 0) (am l g 1)
  else jR l a (aL g 0) (am l g 0) (am l g 1)
theorem WA(l:Li)(a:As)(i k:Int)(j0 j1 j2:Jt):(oe l a i k j0 j1 j2).1=(jw l a i k j0 j1 j2).map Sv.av:=by
 unfold oe jw;split
 ·rfl
 ·split
  ·rfl
  ·exact w7 _ _
theorem QP(l:Li)(a:As)(i:Int)(j0 j:Jt):(mT l a i j0 j).1=(jP l a i j0 j).map Sv.av:=by
 unfold mT jP;split
 ·rfl
 ·split
  ·rfl
  ·exact w7 _ _
theorem OL(l:Li)(a:As)(i:Int)(j0 j:Jt):(lF l a i j0 j).1=(jR l a i j0 j).map Sv.av:=by
 unfold lF jR;split
 ·rfl
 ·split
  ·rfl
  ·split
   ·exact w7 _ _
   ·exact w7 _ _
theorem QH(l:Li)(a:As)(g:Gr)(x:Tn):(jY l a g x).1=(eZ l a g x).map Sv.av:=by
 unfold jY eZ;split
 ·unfold o6 kz;split <;> rfl
 ·split
  ·exact WA ..
  ·split
   ·exact QP ..
   ·exact OL ..
theorem C3{ts:LL}{m:Mt}(ok:MtOk ts m){hs:List Hd}(hl:hs.length<=2)(H:∀x∈m.ps,∀h∈hs,HdP m.ts x h){kd:Int}(hk:kd≠0)(lv:m.ts.length=ts.length+(if m.ps.length=2 then 1 else 0)) :
  SolP (jT m hs) kd ts.length hs.length:=by
 have hln:=ok.ln;refine⟨by simpa[jT]using hln,?_,?_⟩
 ·intro s hs2;obtain⟨i,hi,rfl⟩:=Y8.1 hs2;obtain⟨x,hx⟩:=ay (Y3.1 hi);obtain⟨r,tw,_⟩:=ok.tw;refine⟨⟨r,tw⟩,ok.two,?_,by simpa[j8]using hl⟩;intro p hp;unfold j8 at hp;rw[aq hx]at hp;obtain⟨h,hh,rfl⟩:=Y8.1 hp;exact(H x (aap hx) h hh).b.ok
 ·intro i s hi;unfold jT at hi;have hin:i < m.ps.length:=by have:=(Y1.1 hi).1; simpa using this
  have e:s=j8 m hs i:=by simp[hin]at hi;exact hi.symm
  subst e;have hlen:(jT m hs).length=m.ps.length:=by simp[jT]
  rw[hlen,ab5 hk];refine⟨?_,lv,by simp[j8]⟩;show(if m.ps.length=1 then 0 else 1-2*(i:Int))=_
  by_cases h2:m.ps.length=2
  ·rw[ab5 oz,ab6 h2]
  ·rw[ab6 oz,ab5 h2]
theorem Po{l:Li}{a:As}(D:DyR l a)(hn:(llq a.rs).length<=1){g:Gr}{i k z0 z1 z2:Int}{j0 j1 j2:Jt}(P:RrrP 3900000 l a g i k z0 z1 z2 j0 j1 j2):SolP (jw l a i k j0 j1 j2) 1 (llq a.rs).length 2:=by
 have c:=D.s.ct D.hc;obtain⟨tw,etw⟩:=db D.s.tr D.hc;have hq0:=d7 D.hl D.li P.h0 P.p0.or;have hq1:=d7 D.hl D.li P.h1 P.p1.or;have hq2:=d7 D.hl D.li P.h2 P.t1;have hq3:=d7 D.hl D.li P.h2 P.t2;obtain⟨y1,y2⟩:=mI D.hl D.li D.al D.s D.hc P.h0 P.p0;obtain⟨y3,y4⟩:=mI D.hl D.li D.al D.s D.hc P.h1 P.p1;haveI:=c;haveI q1:=ri hq2 hq0;haveI q2:=ri hq3 hq1;have z1:Zu 310000 65000 (qE (ba (ai l j2 i) (ai l j0 i)):Et (llq a.rs)) 3 0:=ace;have z2:Zu 310000 65000 (qE (ba (ai l j2 k) (ai l j1 k)):Et (llq a.rs)) 3 0:=ace;unfold jw
 by_cases h1:gV [bX (ai l j2 i) (ai l j0 i),bX (ai l j2 k) (ai l j1 k)]=true
 ·rw[ab6 h1];exact oO _ _ _
 ·rw[ab5 h1];obtain⟨w1,w2⟩:=uS (ZY.2 h1)
  by_cases h2:fQ (aw l a j0 i) (aw l a j1 k) (qE (ba (ai l j2 i) (ai l j0 i))) (qE (ba (ai l j2 k) (ai l j1 k)))≠0
  ·rw[ab6 h2];exact oO _ _ _
  ·rw[ab5 h2];have h3:=aao.1 h2;have ok:=Ih (x:=(aw l a j0 i).1) (y:=(aw l a j0 i).2) (x2:=(aw l a j1 k).1) (y2:=(aw l a j1 k).2) tw hn c y1 y2 z1 y3 y4 z2 h3;exact C3 ok (by simp) (fun x hx=>lT (rz ok hx (y1.nm.mono (by decide)) (y2.nm.mono (by decide)) hq0 hq2 w1) (rz ok hx (y3.nm.mono (by decide)) (y4.nm.mono (by decide)) hq1 hq3 w2)) (by decide) (Wb _ _ _ _ h3)
theorem XL{l:Li}{a:As}(D:DyR l a)(hn:(llq a.rs).length<=1){g:Gr}{i z0 z1:Int}{j0 j:Jt}(P:SlP 3900000 l a g 2 i z0 z1 j0 j)(ha:j.a=i)(hb:Pd 3900000 a j.b):SolP (jP l a i j0 j) 2 (llq a.rs).length 1:=by
 have c:=D.s.ct D.hc;obtain⟨tw,etw⟩:=db D.s.tr D.hc;obtain⟨i1,i2,i3,i4,i5⟩:=cF D.li P.h1;have hq2:Sm 1000 (aM l i j.point):=by rw[<- ha];exact iu D.hl D.li i1 i3
 have hq0:=d7 D.hl D.li P.h0 P.p0.or;obtain⟨y1,y2⟩:=mI D.hl D.li D.al D.s D.hc P.h0 P.p0;obtain⟨y3,y4⟩:=mV D.hl D.li D.al D.s D.hc i2 i4 hb;obtain⟨y5,y6⟩:=mV D.hl D.li D.al D.s D.hc i2 (i5 P.hk) hb;haveI:=c;haveI q1:=ri hq2 hq0;have z1:Zu 310000 65000 (qE (ba (aM l i j.point) (ai l j0 i)):Et (llq a.rs)) 3 0:=ace;unfold jP
 by_cases h1:gV [bX (aM l i j.point) (ai l j0 i)]=true
 ·rw[ab6 h1];exact oO _ _ _
 ·rw[ab5 h1];have w1:=uK (ZY.2 h1)
  by_cases h2:fR (aZ l a j.b j.on) (aZ l a j.b j.to)≠0
  ·rw[ab6 h2];exact oO _ _ _
  ·rw[ab5 h2];have h3:=aao.1 h2;have ok:=IF (o:=aw l a j0 i) (p:=aZ l a j.b j.on) (q:=aZ l a j.b j.to) (z:=qE (ba (aM l i j.point) (ai l j0 i))) tw hn c y1 y2 y3 y4 y5 y6 z1 h3;exact C3 ok (by simp) (fun x hx=>iP (rz ok hx (y1.nm.mono (by decide)) (y2.nm.mono (by decide)) hq0 hq2 w1)) (by decide) (VM _ _ _ _ h3)
theorem FN{ts T:LL}{R:Rp}{qs:LL}(ct:Cy T 773000000 1101400000)(hl:qs.length<=2)(h1:1<=qs.length)(H:∀q∈qs,RqP T R q)(lv:T.length=ts.length+(if qs.length=2 then 1 else 0)):SolP (jF T R qs) 3 ts.length 1:=by
 refine⟨by simpa[jF]using hl,?_,?_⟩
 ·intro s hs2;obtain⟨i,hi,rfl⟩:=Y8.1 hs2;obtain⟨x,hx⟩:=ay (Y3.1 hi);obtain⟨r,tw,_⟩:=ct.ex;refine⟨⟨r,tw⟩,ct.two,?_,by simp[iY]⟩;intro p hp;unfold iY at hp;rw[aq hx]at hp;rw[Za.1 hp];exact(H x (aap hx)).b.ok
 ·intro i s hi;unfold jF at hi;have hin:i < qs.length:=by have:=(Y1.1 hi).1; simpa using this
  have e:s=iY T R qs i:=by simp[hin]at hi;exact hi.symm
  subst e;have hlen:(jF T R qs).length=qs.length:=by simp[jF]
  rw[hlen,ab5 (by decide)];refine⟨?_,lv,by simp[iY]⟩;show(if qs.length=1 then 0 else 1-2*(i:Int))=_
  by_cases h2:qs.length=2
  ·rw[ab5 oz,ab6 h2]
  ·rw[ab6 oz,ab5 h2]
theorem O1{l:Li}{a:As}(D:DyR l a)(hn:(llq a.rs).length<=1){g:Gr}{i z0 z1:Int}{j0 j:Jt}(P:SlP 3900000 l a g 3 i z0 z1 j0 j)(hj:j.b=i)(hb:Pd 3900000 a j.a):SolP (jR l a i j0 j) 3 (llq a.rs).length 1:=by
 obtain⟨tw,etw⟩:=db D.s.tr D.hc;have F:=J8 D hn P hj hb;unfold jR
 by_cases h1:ao (bY l a i j0 j)=0/\ao (qE (bP l i j0 j):Et (llq a.rs))=0
 ·rw[ab6 h1];exact oO _ _ _
 ·rw[ab5 h1]
  by_cases h2:ao (bw l a i j0 j)<0
  ·rw[ab6 h2];exact oO _ _ _
  ·rw[ab5 h2];have hd0:ao (bY l a i j0 j)≠0:=uJ tw h2 h1
   by_cases h3:0<ao (bw l a i j0 j)
   ·rw[ab6 h3];obtain⟨E,R1,R2,_⟩:=Ig F tw hn hd0 oz;exact FN (ts:=llq a.rs) (qs:=[cC (llq a.rs).length,sX (-bE (bw l a i j0 j))]) E.cy (aau 2) (by show 1<=2;omega) (lT R1 R2) (dQ (llq a.rs) (sX (bw l a i j0 j)))
   ·rw[ab5 h3];obtain⟨cs,R0⟩:=JB F tw hn hd0;exact FN (ts:=llq a.rs) (qs:=[[]]) cs (by show 1<=2;omega) (aau 1) (iP R0) rfl
theorem LP{E:Nat}(hE:E<=20000000000){l:Li}{a:As}(D:DyW l a)(h3:(llq a.rs).length<=2){i z0:Int}{j0:Jt}(h0:l.jo[z0.toNat]?=some j0)(p0:PinP E l a j0 i){x:Tn}(hq:Qb 1000 x.t.q):SolP (kz l a i j0 x) 0 (llq a.rs).length 1:=by
 obtain⟨tw,etw⟩:=db D.al.tr D.hc;unfold kz
 by_cases he:x.err≠0
 ·rw[ab6 he];exact oO _ _ _
 ·rw [ab5 he];refine ⟨by simp,iP ⟨⟨_,tw⟩,h3,iP (Jn hE D h3 h0 p0 hq).ok,by show 1 <= 2; omega⟩,?_⟩;intro n s hs
  match n,hs with
  |0,hs=>cases hs;exact⟨rfl,rfl,rfl⟩
theorem Jm{E:Nat}(hE:E<=20000000000){l:Li}{k:Int}{a:As}{n:Nat}{g:Gr}{x:Tn}(D:DyW l a)(h3:(llq a.rs).length<=2)(ok:DyOk E l k a false n g)(hR:g.kind≠0->E=3900000/\DyS a)(hq:Qb 1000 x.t.q):SolP (eZ l a g x) g.kind (llq a.rs).length g.bo.length:=by
 unfold eZ
 by_cases hk0:g.kind=0
 ·obtain⟨i,z0,d,j0,e,hj0,p0⟩:=BF ok hk0;rw[ab6 hk0,e];show SolP (kz l a i (l.jo.getD z0.toNat default) x) _ _ _;rw[aq hj0];exact LP hE D h3 hj0 p0 hq
 ·rw[ab5 hk0];obtain⟨hE9,S⟩:=hR hk0;subst hE9;have D:DyR l a:=⟨D,S⟩
  have hn:=S.one D.hc
  by_cases hk1:g.kind=1
  ·obtain⟨i,k2,z0,z1,z2,j0,j1,j2,P⟩:=ok.rrr hk1;obtain⟨e0,e1,e2,b0,b1,_⟩:=P.at;rw[ab6 hk1,e0,e1,e2,b0,b1,hk1,P.eq];exact Po D hn P
  ·rw[ab5 hk1]
   by_cases hk2:g.kind=2
   ·obtain⟨i,z0,z1,j0,j,P,ha,hb⟩:=ok.pr hk2;obtain⟨e0,e1,b0,_⟩:=P.at;rw[ab6 hk2,e0,e1,b0,hk2,P.eq];exact XL D hn P ha hb
   ·obtain⟨i,z0,z1,j0,j,P,_,hj,hb⟩:=ok.rp hk0 hk1 hk2;obtain⟨e0,e1,b0,hk3⟩:=P.at;rw[ab5 hk2,e0,e1,b0,hk3,P.eq];exact O1 D hn P hj hb
open Lean.Grind (CommRing)
structure Hm{ts:LL}{R:Type}[CommRing R](f:Et ts->R):Prop where
  add:∀x y,f (x+y)=f x+f y
  mul:∀x y,f (x*y)=f x*f y
  neg:∀x,f (-x)=-f x
  one:f 1=1
  inv:∀x,ao x≠0->f (iE x)*f x=1
  zero:∀x,f x=0↔ao x=0
section
variable{ts:LL}{R:Type}[CommRing R]{f:Et ts->R}(h:Hm f)
include h
theorem Hm.sub(x y:Et ts):f (x-y)=f x-f y:=by
 rw[show x-y=x+-y by grind,h.add,h.neg];grind
theorem Hm.nul:f 0=0:=by
 have e:=h.add 0 0;rw[show(0:Et ts)+0=0 by grind]at e;grind
theorem Hm.q1:f (qE ((1:Int):Rat))=1:=by rw[lJ];exact h.one
theorem Hm.q4:f (qE 4)=4:=by
 have e:(qE 4:Et ts)=1+1+1+1:=by
  have e1:=om (r:=au ts) (n:=ts.length) 1 1;have e2:=om (r:=au ts) (n:=ts.length) 2 2;rw[show(1:Rat)+1=2 by decide +kernel]at e1;rw[show(2:Rat)+2=4 by decide +kernel,e1]at e2;rw[e2];have e3:(qE 1:Et ts)=1:=rfl;rw[e3];grind
 rw[e,h.add,h.add,h.add,h.one];grind
end
abbrev eU(ts:LL):Prop:=fw (au ts) ts.length
theorem AG{ts:LL}(hp:eU ts):Hm (af hp:Et ts->Zq hp) :=
 ⟨fun _ _=>rfl,fun _ _=>rfl,fun _=>rfl,rfl,fun x hx=>vu hp hx,fun x=>fj hp⟩
theorem W3{ts:LL}(X:Et ts)(hp:eU (aU ts (sX X))):Hm (fun x:Et ts=>af hp (aP X x)) :=
  ⟨fun x y => by rw [pZ]; rfl, fun x y => by rw [fE]; rfl, fun x => by rw [IG]; rfl,
   by have e := nC X ((1 : Nat) : Rat)
      have e1:(qE ((1:Nat):Rat):Et ts)=1:=rfl;rw[e1]at e;rw[e];rfl,
   fun x hx=>by rw[o7];exact vu hp (by show ao (aP X x)≠0;rw[o8];exact hx),
   fun x=>by rw[fj hp];show ao (aP X x)=0↔_;rw[o8]⟩
theorem Ec(k:Nat):ae (k+1) (cC k)=(T.zero k,T.ofQ k 1):=by
 have h1:(cC k).take (2^k)=Y6 (2^k) 0:=by
  unfold cC;rw[List.take_set_of_le (aau _),List.take_replicate];congr 1;have:=Yv (a:=2) oz (Nat.lt_succ_self k);omega
 have h2:(cC k).drop (2^k)=(1:Rat)::Y6 (2^k-1) 0:=by
  unfold cC;rw[List.drop_set,ab5 oz,Nat.sub_self,List.drop_replicate]
  have e:2^(k+1)-2^k=(2^k-1)+1:=by
   have h3:0<2^k:=YP oz;have h4:2^(k+1)=2^k+2^k:=by rw[Yj];omega
   omega
  rw[e,List.replicate_succ,List.set_cons_zero]
 show(ae k _,ae k _)=_;rw[h1,h2]
 have e1:ae k (Y6 (2^k) (0:Rat))=T.zero k:=by
  rw[<- gp]
  exact oy k (fun i _=>by
   rw[aaq,aaq,abl];split <;> rfl)
 have e2:ae k ((1:Rat)::Y6 (2^k-1) 0)=T.ofQ k 1:=by
  rw[<- lg]
  exact oy k (fun i _=>by
   cases i with
   |zero=>rfl
   |succ i =>
    rw[aaq,aaq,List.getElem?_cons_succ,abl];split <;> rfl)
 rw[e1,e2]
theorem Vj{n N:Nat}(hN:N=n+1){r:(k:Nat)->T k}(x:T n)(hx:r n=x):T.mul r N (ae N (cC n)) (ae N (cC n))=jm x:=by
 subst hN;rw[Ec,kG];show(T.add n (T.mul r n (T.zero n) (T.zero n)) (T.mul r n (T.mul r n (T.ofQ n 1) (T.ofQ n 1)) (r n)),T.add n (T.mul r n (T.zero n) (T.ofQ n 1)) (T.mul r n (T.ofQ n 1) (T.zero n)))=_;have L:=nU r n;rw[L.one,L.one,T.zero_mul,T.zero_mul,T.zero_add,L.one,T.zero_add,hx]
theorem Bk{ts:LL}(X:Et ts):bE X*bE X=aP X X:=by
 refine Vj (dQ _ _) X ?_;show ae ts.length ((aU ts (sX X)).getD ts.length [])=X;rw[tm,nO];exact bh _ _
section
variable{R:Type}[CommRing R]
theorem ML{p1 p2 q1 q2 z z2 i t:R}(hi:i*(((p1-q1)*(p1-q1)+(p2-q2)*(p2-q2))+((p1-q1)*(p1-q1)+(p2-q2)*(p2-q2)))=1)
  (ht:t*t=4*(z*((p1-q1)*(p1-q1)+(p2-q2)*(p2-q2)))-((z+((p1-q1)*(p1-q1)+(p2-q2)*(p2-q2)))-z2)*((z+((p1-q1)*(p1-q1)+(p2-q2)*(p2-q2)))-z2))
  {x y:R} (hx:x=p1+((z+((p1-q1)*(p1-q1)+(p2-q2)*(p2-q2)))-z2)*i*(q1-p1)+t*(i*-(q2-p2))) (hy:y=p2+((z+((p1-q1)*(p1-q1)+(p2-q2)*(p2-q2)))-z2)*i*(q2-p2)+t*(i*(q1-p1))) :
  (x-p1)*(x-p1)+(y-p2)*(y-p2)=z/\(x-q1)*(x-q1)+(y-q2)*(y-q2)=z2:=by
 obtain⟨d,hd⟩:∃d,d=(p1-q1)*(p1-q1)+(p2-q2)*(p2-q2):=⟨_,rfl⟩
 rw[<- hd]at hi ht hx hy;obtain⟨a,ha⟩:∃a,a=z+d-z2:=⟨_,rfl⟩
 rw[<- ha]at ht hx hy;have e1:(x-p1)*(x-p1)+(y-p2)*(y-p2)=(a*a+t*t)*(i*i)*d:=by rw[hx,hy,hd];grind
 have e2:(a*a+t*t)*(i*i)*d=z:=by
  rw[ht];have:(a*a+(4*(z*d)-a*a))*(i*i)*d=z*(i*(d+d))*(i*(d+d)):=by grind
  rw[this,hi];grind
 have e3:(x-q1)*(x-q1)+(y-q2)*(y-q2)=((x-p1)*(x-p1)+(y-p2)*(y-p2))-a*(i*(d+d))+d:=by rw[hx,hy,hd];grind
 refine⟨e1.trans e2,?_⟩;rw[e3,e1,e2,hi,ha];grind
theorem Sa(e t i S:R):(e+t)*i*S=(e+t)*(i*S):=by grind
theorem So(z i S W:R):i*S*z-i*(S*W)+W=z*(i*S)-(i*S)*W+W:=by grind
theorem UU(z W:R):z*1-1*W+W=z:=by grind
theorem SD(x:R):x*1=x:=by grind
theorem NP(k e t S:R):k*k*S-(k*e+k*e)=k*(k*S)-(k*e+k*e):=by grind
theorem QX(e t i:R):(e+t)*i*(e+t)-((e+t)*i*e+(e+t)*i*e)=i*(t*t-e*e):=by grind
theorem Rl{p1 p2 q1 q2 c1 c2 z i t k:R}(hi:i*((q1-p1)*(q1-p1)+(q2-p2)*(q2-p2))=1)
  (ht:t*t=((q1-p1)*(q1-p1)+(q2-p2)*(q2-p2))*z-((q1-p1)*(c2-p2)-(q2-p2)*(c1-p1))*((q1-p1)*(c2-p2)-(q2-p2)*(c1-p1)))
  (hk:k=((q1-p1)*(c1-p1)+(q2-p2)*(c2-p2)+t)*i)
  {x y:R} (hx:x=p1+k*(q1-p1)) (hy:y=p2+k*(q2-p2)) :
  (x-c1)*(x-c1)+(y-c2)*(y-c2)=z/\(q1-p1)*(y-p2)-(q2-p2)*(x-p1)=0:=by
 refine⟨?_,by rw[hx,hy];grind⟩;obtain⟨S,hS⟩:∃S,S=(q1-p1)*(q1-p1)+(q2-p2)*(q2-p2):=⟨_,rfl⟩
 obtain⟨e,he⟩:∃e,e=(q1-p1)*(c1-p1)+(q2-p2)*(c2-p2):=⟨_,rfl⟩
 obtain⟨C,hC⟩:∃C,C=(q1-p1)*(c2-p2)-(q2-p2)*(c1-p1):=⟨_,rfl⟩
 obtain⟨W,hW⟩:∃W,W=(c1-p1)*(c1-p1)+(c2-p2)*(c2-p2):=⟨_,rfl⟩
 rw[<- hS]at hi ht;rw[<- he]at hk;rw[<- hC]at ht;have e0:e*e+C*C=S*W:=by rw[he,hC,hS,hW];grind
 have e1:(x-c1)*(x-c1)+(y-c2)*(y-c2)=k*k*S-(k*e+k*e)+W:=by rw[hx,hy,hS,he,hW];grind
 have e2:k*S=e+t:=by rw[hk,Sa,hi,SD]
 have e3:k*k*S-(k*e+k*e)+W=i*(t*t-e*e)+W:=by
  rw[NP k e t S,e2,hk,QX]
 rw[e1,e3,ht];have:i*(S*z-C*C-e*e)+W=i*S*z-i*(e*e+C*C)+W:=by grind
 rw[this,e0,So,hi,UU]
theorem Xy{W1 W2 N hh i t D w1 w2:R}(hD:D=W1*W1+W2*W2)(hi:i*D=1)(ht:t*t=N*D-hh*hh)
  (h1:w1=(t*W1-hh*-W2)*i) (h2:w2=(t*W2-hh*W1)*i):w1*w1+w2*w2=N/\w1*W2-w2*W1=hh:=by
 have e1:w1*w1+w2*w2=(t*t+hh*hh)*(i*D)*i:=by rw[h1,h2,hD];grind
 have e2:w1*W2-w2*W1=hh*(i*D):=by rw[h1,h2,hD];grind
 refine⟨?_,by rw[e2,hi];grind⟩;rw[e1,ht,hi];have:(N*D-hh*hh+hh*hh)*1*i=N*(i*D):=by grind
 rw[this,hi];grind
theorem KN{u1 u2 w1 w2 n i c s:R}(hn:n=u1*u1+u2*u2)(hi:i*n=1)(hc:c=(u1*w1+u2*w2)*i)(hs:s=(u1*w2-u2*w1)*i) :
  (c*u1-s*u2=w1/\s*u1+c*u2=w2)/\(w1*w1+w2*w2=n->c*c+s*s=1):=by
 have e1:c*u1-s*u2=w1*(i*n):=by rw[hc,hs,hn];grind
 have e2:s*u1+c*u2=w2*(i*n):=by rw[hc,hs,hn];grind
 refine⟨⟨by rw[e1,hi];grind,by rw[e2,hi];grind⟩,fun hw=>?_⟩;have e3:c*c+s*s=(w1*w1+w2*w2)*(i*n)*i:=by rw[hc,hs,hn];grind
 rw[e3,hw,hi];rw[show n*1*i=i*n by grind,hi]
end
end Go.Lw
namespace Go.Lw
open Lean.Grind (CommRing)
def az{ts:LL}(T:LL)(y:Et ts):Et T:=dE T (sX y)
structure Lf(ts T:LL):Prop where
  pos:eU T
  hm:Hm (fun y:Et ts=>af pos (az T y))
  low:∀l:List Rat,l.length<=2^ts.length->az T (dE ts l)=dE T l
  q:∀q:Rat,az T (qE q:Et ts)=qE q
  len:ts.length<=T.length
  sg:∀y:Et ts,ao (az T y)=ao y
  ad:∀x y:Et ts,az T (x+y)=az T x+az T y
  mu:∀x y:Et ts,az T (x*y)=az T x*az T y
theorem dp{ts:LL}(y:Et ts):az ts y=y:=bh _ _
theorem m8{ts:LL}(hp:eU ts):Lf ts ts:=by
 refine⟨hp,?_,fun l _=>dp _,fun q=>dp _,aau _,fun y=>by rw[dp],fun x y=>by rw[dp,dp,dp],fun x y=>by rw[dp,dp,dp]⟩;have e:(fun y:Et ts=>af hp (az ts y))=af hp:=funext fun y=>by rw[dp]
 rw[e];exact AG hp
theorem SV{n N:Nat}(hN:N=n+1){l:List Rat}(h:l.length<=2^n):ae N (sh n (ae n l))=ae N l:=by
 subst hN;rw[gq (eT n _).le,bh,gq h]
theorem pS{ts:LL}(X:Et ts)(hp:eU (aU ts (sX X))):Lf ts (aU ts (sX X)) :=
 ⟨hp,W3 X hp,fun l h=>SV (dQ _ _) h,fun q=>nC X q,by rw[dQ];omega,fun y=>o8,fun x y=>pZ X x y,fun x y=>fE X x y⟩
structure CirG(ts T:LL)(x:List Rat×List Rat)(p q:P2 ts)(z z2:Et ts):Prop where
  lf:Lf ts T
  c1:ao ((dE T x.1-az T p.1)*(dE T x.1-az T p.1)+(dE T x.2-az T p.2)*(dE T x.2-az T p.2)-az T z)=0
  c2:ao ((dE T x.1-az T q.1)*(dE T x.1-az T q.1)+(dE T x.2-az T q.2)*(dE T x.2-az T q.2)-az T z2)=0
section
variable{ts:LL}
theorem yS{R:Type}[CommRing R]{f:Et ts->R}(h:Hm f)(p q:P2 ts):f (aA p q)=(f p.1-f q.1)*(f p.1-f q.1)+(f p.2-f q.2)*(f p.2-f q.2):=by
 show f ((p.1-q.1)*(p.1-q.1)+(p.2-q.2)*(p.2-q.2))=_;rw[h.add,h.mul,h.mul,h.sub,h.sub]
theorem Fm{R:Type}[CommRing R]{f:Et ts->R}(h:Hm f)(p q:P2 ts)(z z2:Et ts){D:R}(hD:f (aA p q)=D):f (bj p z q z2)=4*(f z*D)-((f z+D)-f z2)*((f z+D)-f z2):=by
 subst hD;unfold bj;rw[h.sub,h.mul,h.mul,h.mul,h.sub,h.add,h.q4]
theorem O3{R:Type}[CommRing R]{f:Et ts->R}(h:Hm f){p q:P2 ts}{z z2:Et ts}(hd2:ao (aA p q+aA p q)≠0){t:R}(ht:t*t=f (bj p z q z2)){x y:R}
  (hx:x=f (dj p q z z2).1+t*f (gM p q).1) (hy:y=f (dj p q z z2).2+t*f (gM p q).2) :
  (x-f p.1)*(x-f p.1)+(y-f p.2)*(y-f p.2)=f z/\(x-f q.1)*(x-f q.1)+(y-f q.2)*(y-f q.2)=f z2:=by
 have d:=yS h p q;have hi:=h.inv _ hd2;rw[h.add,d]at hi;rw[Fm h p q z z2 d]at ht;refine ML hi ht ?_ ?_
 ·rw[hx,wC];unfold cZ gM;dsimp only;show f (p.1+qE ((1:Int):Rat)*iE (aA p q+aA p q)*(z+aA p q-z2)*(q.1-p.1))+t*f (qE ((1:Int):Rat)*iE (aA p q+aA p q)*(0-(q.2-p.2)))=_;simp only[h.add,h.mul,h.sub,h.q1,h.nul,d];generalize(f p.1-f q.1)*(f p.1-f q.1)+(f p.2-f q.2)*(f p.2-f q.2)=D;generalize f (iE (aA p q+aA p q))=i;clear ht hi hx hy;grind
 ·rw[hy,wC];unfold cZ gM;dsimp only;show f (p.2+qE ((1:Int):Rat)*iE (aA p q+aA p q)*(z+aA p q-z2)*(q.2-p.2))+t*f (qE ((1:Int):Rat)*iE (aA p q+aA p q)*(q.1-p.1))=_;simp only[h.add,h.mul,h.sub,h.q1,d];generalize(f p.1-f q.1)*(f p.1-f q.1)+(f p.2-f q.2)*(f p.2-f q.2)=D;generalize f (iE (aA p q+aA p q))=i;clear ht hi hx hy;grind
theorem HD{r:Nat}(tw:Tw ts r){d:Et ts}(hd:ao d≠0):ao (d+d)≠0:=by
 rw[<- Cw,v8 tw];exact hd
theorem BO{T:LL}(L:Lf ts T){x:List Rat×List Rat}{p q:P2 ts}{z z2:Et ts}(hd2:ao (aA p q+aA p q)≠0){t:Et T}(ht:af L.pos (t*t)=af L.pos (az T (bj p z q z2)))
  (hx:dE T x.1=az T (dj p q z z2).1+t*az T (gM p q).1) (hy:dE T x.2=az T (dj p q z z2).2+t*az T (gM p q).2):CirG ts T x p q z z2:=by
 have g:=O3 L.hm hd2 (t:=af L.pos t) ht (x:=af L.pos (dE T x.1)) (y:=af L.pos (dE T x.2)) (by rw[hx];rfl) (by rw[hy];rfl);refine⟨L,?_,?_⟩
 ·refine(fj L.pos).1 ?_;rw[bI,fc,bD,bD,bI,bI];have:=g.1;generalize af L.pos (az T z)=Z at *;generalize af L.pos (az T p.1)=P1 at *;generalize af L.pos (az T p.2)=P2 at *;rw[this];grind
 ·refine(fj L.pos).1 ?_;rw[bI,fc,bD,bD,bI,bI];have:=g.2;rw[this];grind
theorem eJ{T:LL}(y:Et T):dE T (sX y)=y:=bh _ _
theorem PP{r:Nat}(tw:Tw ts r)(hx4:∀X:Et ts,0<ao X->eU (aU ts (sX X))){p q:P2 ts}{z z2:Et ts}(h0:fQ p q z z2=0)(hz:0<ao z) :
  ∀x∈(er p q z z2).ps,CirG ts (er p q z z2).ts x p q z z2:=by
 intro x;unfold fQ l8 at h0;unfold er;split
 ·rename_i hd;rw[ab6 hd]at h0;unfold lQ;split
  ·intro hx;cases hx
  ·intro hx;cases hx
 ·rename_i hd;have hd2:=HD tw hd;split
  ·intro hx;cases hx
  ·rename_i hn;split
   ·rename_i hX;intro hx;rw[Za.1 hx];have hp:eU ts:=tw.pos;refine BO (m8 hp) hd2 (t:=0) ?_ ?_ ?_
    ·refine((fj hp).2 ?_).trans ((fj hp).2 ?_).symm
     ·rw[show(0:Et ts)*0=0 by grind];exact(eF _ _ hp).zero
     ·rw[dp];exact hX
    ·rw[dp,dp,eJ];grind
    ·rw[dp,dp,eJ];grind
   ·rename_i hX;have hX1:0 < ao (bj p z q z2):=by omega
    have hp:=hx4 _ hX1;intro hx;have L:=pS (bj p z q z2) hp;have e:=Bk (bj p z q z2);rcases abd.1 hx with rfl |hx
    ·refine BO L hd2 (t := bE (bj p z q z2)) (by rw [e]; rfl) ?_ ?_
     ·rw[eJ];exact acd Prod.fst (u9 (bj p z q z2) (dj p q z z2) p q)
     ·rw[eJ];exact acd Prod.snd (u9 (bj p z q z2) (dj p q z z2) p q)
    ·rw [Za.1 hx];refine BO L hd2 (t:=-bE (bj p z q z2)) (by rw [show -bE (bj p z q z2) * -bE (bj p z q z2) = bE (bj p z q z2) * bE (bj p z q z2) by grind,e]; rfl) ?_ ?_
     ·rw[eJ,acd Prod.fst (wk (bj p z q z2) (dj p q z z2) p q)];show aP _ _-_*aP _ _=aP _ _+-_*aP _ _;grind
     ·rw[eJ,acd Prod.snd (wk (bj p z q z2) (dj p q z z2) p q)];show aP _ _-_*aP _ _=aP _ _+-_*aP _ _;grind
structure LinG(ts T:LL)(x:List Rat×List Rat)(p q c:P2 ts)(z:Et ts):Prop where
  lf:Lf ts T
  c:ao ((dE T x.1-az T c.1)*(dE T x.1-az T c.1)+(dE T x.2-az T c.2)*(dE T x.2-az T c.2)-az T z)=0
  l:ao ((az T q.1-az T p.1)*(dE T x.2-az T p.2)-(az T q.2-az T p.2)*(dE T x.1-az T p.1))=0
theorem Tq{R:Type}[CommRing R]{f:Et ts->R}(h:Hm f){p q c:P2 ts}{z:Et ts}(hd:ao (bm p q)≠0){t:R}(ht:t*t=f (aX p q c z)){x y:R}
  (hx:x=f (cZ p (bQ p q c*iE (bm p q)) (aQ q p)).1+t*f (gz p q).1) (hy:y=f (cZ p (bQ p q c*iE (bm p q)) (aQ q p)).2+t*f (gz p q).2) :
  (x-f c.1)*(x-f c.1)+(y-f c.2)*(y-f c.2)=f z/\(f q.1-f p.1)*(y-f p.2)-(f q.2-f p.2)*(x-f p.1)=0:=by
 have hi:=h.inv _ hd
 have eS:f (bm p q)=(f q.1-f p.1)*(f q.1-f p.1)+(f q.2-f p.2)*(f q.2-f p.2):=by
  show f ((q.1-p.1)*(q.1-p.1)+(q.2-p.2)*(q.2-p.2))=_;simp only[h.add,h.mul,h.sub]
 have eE:f (bQ p q c)=(f q.1-f p.1)*(f c.1-f p.1)+(f q.2-f p.2)*(f c.2-f p.2):=by
  show f ((q.1-p.1)*(c.1-p.1)+(q.2-p.2)*(c.2-p.2))=_;simp only[h.add,h.mul,h.sub]
 have eC:f (iw p q c)=(f q.1-f p.1)*(f c.2-f p.2)-(f q.2-f p.2)*(f c.1-f p.1):=by
  show f ((q.1-p.1)*(c.2-p.2)-(q.2-p.2)*(c.1-p.1))=_;simp only[h.mul,h.sub]
 have eX:f (aX p q c z)=f (bm p q)*f z-f (iw p q c)*f (iw p q c):=by
  show f (bm p q*z-iw p q c*iw p q c)=_;simp only[h.mul,h.sub]
 rw[eX,eC,eS]at ht;rw[eS]at hi;refine Rl hi ht (k:=(f (bQ p q c)+t)*f (iE (bm p q))) (by rw[eE]) ?_ ?_
 ·rw[hx];unfold cZ gz;show f (p.1+bQ p q c*iE (bm p q)*(q.1-p.1))+t*f (qE ((1:Int):Rat)*iE (bm p q)*(q.1-p.1))=_;simp only[h.add,h.mul,h.sub,h.q1];generalize f (iE (bm p q))=i;generalize f (bQ p q c)=e;clear ht hi hx hy eS eE eC eX;grind
 ·rw[hy];unfold cZ gz;show f (p.2+bQ p q c*iE (bm p q)*(q.2-p.2))+t*f (qE ((1:Int):Rat)*iE (bm p q)*(q.2-p.2))=_;simp only[h.add,h.mul,h.sub,h.q1];generalize f (iE (bm p q))=i;generalize f (bQ p q c)=e;clear ht hi hx hy eS eE eC eX;grind
theorem yN{T:LL}(L:Lf ts T){x:List Rat×List Rat}{p q c:P2 ts}{z:Et ts}(hd:ao (bm p q)≠0){t:Et T}(ht:af L.pos (t*t)=af L.pos (az T (aX p q c z)))
  (hx:dE T x.1=az T (cZ p (bQ p q c*iE (bm p q)) (aQ q p)).1+t*az T (gz p q).1) (hy:dE T x.2=az T (cZ p (bQ p q c*iE (bm p q)) (aQ q p)).2+t*az T (gz p q).2):LinG ts T x p q c z:=by
 have g:=Tq L.hm hd (t:=af L.pos t) ht (x:=af L.pos (dE T x.1)) (y:=af L.pos (dE T x.2)) (by rw[hx];rfl) (by rw[hy];rfl);refine⟨L,?_,?_⟩
 ·refine(fj L.pos).1 ?_;rw[bI,fc,bD,bD,bI,bI];have:=g.1;rw[this];grind
 ·refine(fj L.pos).1 ?_;rw[bI,bD,bD,bI,bI,bI,bI];exact g.2
theorem PL{r:Nat}(tw:Tw ts r)(hx4:∀X:Et ts,0<ao X->eU (aU ts (sX X))){p q c:P2 ts}{z:Et ts}(h0:fR p q=0) :
  ∀x∈(d8 p q c z).ps,LinG ts (d8 p q c z).ts x p q c z:=by
 intro x;unfold fR at h0;unfold d8;split
 ·intro hx;cases hx
 ·rename_i hd;split
  ·intro hx;cases hx
  ·rename_i hn;split
   ·rename_i hX;intro hx;rw[Za.1 hx];have hp:eU ts:=tw.pos;refine yN (m8 hp) hd (t:=0) ?_ ?_ ?_
    ·refine((fj hp).2 ?_).trans ((fj hp).2 ?_).symm
     ·rw[show(0:Et ts)*0=0 by grind];exact(eF _ _ hp).zero
     ·rw[dp];exact hX
    ·rw[dp,dp,eJ];grind
    ·rw[dp,dp,eJ];grind
   ·rename_i hX
    have hX1:0<ao (aX p q c z):=by
     rcases(eF _ _ tw.pos).cs (aX p q c z)with g |g |g
     ·exact acc g hn
     ·exact acc g hX
     ·show 0<sg _ _ _;rw[g];decide
    have hp:=hx4 _ hX1;intro hx;have L:=pS (aX p q c z) hp;have e:=Bk (aX p q c z);rcases abd.1 hx with rfl |hx
    ·refine yN L hd (t := bE (aX p q c z)) (by rw [e]; rfl) ?_ ?_
     ·rw[eJ];exact acd Prod.fst (vR (aX p q c z) p q c)
     ·rw[eJ];exact acd Prod.snd (vR (aX p q c z) p q c)
    ·rw [Za.1 hx];refine yN L hd (t:=-bE (aX p q c z)) (by rw [show -bE (aX p q c z) * -bE (aX p q c z) = bE (aX p q c z) * bE (aX p q c z) by grind,e]; rfl) ?_ ?_
     ·rw[eJ,acd Prod.fst (xF (aX p q c z) p q c)];show aP _ _-_*aP _ _=aP _ _+-_*aP _ _;grind
     ·rw[eJ,acd Prod.snd (xF (aX p q c z) p q c)];show aP _ _-_*aP _ _=aP _ _+-_*aP _ _;grind
end
end Go.Lw
namespace Go.Lw
theorem CD(r:(k:Nat)->T k)(q:Rat):∀(k:Nat){a c:List Rat},(∀i,i<2^k->c.getD i 0=q*a.getD i 0)->ae k c=T.mul r k (T.ofQ k q) (ae k a)
 |0,a,c,h=>h 0 (by decide)
 |k+1,a,c,h=>by
  have h1:=CD r q k (a:=a.take (2^k)) (c:=c.take (2^k)) (fun i hi=>by rw[kR,kR,ab6 hi,ab6 hi];exact h i (by rw[Yj];omega));have h2:=CD r q k (a:=a.drop (2^k)) (c:=c.drop (2^k)) (fun i hi=>by rw[kO,kO];exact h _ (by rw[Yj];omega));show(ae k (c.take (2^k)),ae k (c.drop (2^k)))=T.mul r (k+1) (T.ofQ k q,T.zero k) (ae k (a.take (2^k)),ae k (a.drop (2^k)));rw[T.mul_comm,T.mul_half,h1,h2,T.mul_comm r k (ae k (a.take _)),T.mul_comm r k (ae k (a.drop _))]
section
variable{ts:LL}
def Bz(e:Nat)(x:Et ts):Prop:=Nm ts.length e (sX x)
theorem Bz.mono{e f:Nat}{x:Et ts}(h:Bz e x)(hf:e<=f):Bz f x:=Nm.mono h hf
theorem Bz.add{e f:Nat}{x y:Et ts}(hx:Bz e x)(hy:Bz f y):Bz (e+f+1) (x+y):=Nm.addT hx hy
theorem Bz.sub{e f:Nat}{x y:Et ts}(hx:Bz e x)(hy:Bz f y):Bz (e+f+1) (x-y):=Nm.subT hx hy
theorem Bz.neg{e:Nat}{x:Et ts}(hx:Bz e x):Bz e (-x):=Nm.negT hx
theorem Bz.mul{r K e f:Nat}(tw:Tw ts r)(hK:eB r ts.length<=K){x y:Et ts}(hx:Bz e x)(hy:Bz f y):Bz (e+f+K) (x*y):=by
 have h:=Nm.mul tw rfl hx hy;have e1:∀z:Et ts,ae ts.length (sX z)=z:=fun z=>bh _ _
 rw[e1,e1]at h;exact Nm.mono h (Nat.add_le_add_left hK _)
theorem Bz.q{e:Nat}{q:Rat}(h5:ts.length<=5)(hq:Cb e [q]):Bz e (qE q:Et ts):=by
 unfold Bz;rw[lL];exact Nm.ofQ h5 hq
theorem Bz.qm{e f:Nat}{q:Rat}{x:Et ts}(hq:Cb e [q])(hx:Bz f x):Bz (e+f) (qE q*x):=by
 obtain⟨D,N,h1,h2,h3⟩:=hq;obtain⟨D',N',k1,k2,k3⟩:=hx.cb;obtain⟨n,hn,hN⟩:=h1.2 q (Za.2 rfl);have hx2:ae ts.length (sX x)=x:=bh _ _
 have hd:ae ts.length ((sX x).map (q*·))=T.mul (au ts) ts.length (T.ofQ ts.length q) (ae ts.length (sX x)):=CD _ q _ (fun i _=>by
  rw[aaq,aav,aaq];cases(sX x)[i]? with
  |none=>exact(Rat.mul_zero q).symm
  |some v=>rfl)
 rw[hx2]at hd
 have hc:Cb (e+f) ((sX x).map (q*·)):=by
  refine⟨D*D',N*N',⟨YJ h1.1 k1.1,?_⟩,?_,?_⟩
  ·intro z hz;obtain⟨y,hy,rfl⟩:=Y8.1 hz;obtain⟨m,hm,hM⟩:=k1.2 y hy;refine⟨n*m,?_,?_⟩
   ·rw[Int.natCast_mul,ZT,ZT,<- hn,<- hm];grind
   ·rw[ZJ];exact YC hN hM
  ·rw[abq];exact YC h2 k2
  ·rw[abq];exact YC h3 k3
 have hnl:Nl ts.length ((sX x).map (q*·)):=by
  rcases hx.nl with h |⟨j,hj,h⟩
  ·exact .inl (by rw[h];rfl)
  ·exact .inr ⟨j,hj,by rw[aar];exact h⟩
 refine⟨hx.five,eT _ _,?_⟩;have:=hc.sh hnl;rw[hd]at this;exact this
theorem Bz.mq{e f:Nat}{q:Rat}{x:Et ts}(hx:Bz f x)(hq:Cb e [q]):Bz (e+f) (x*qE q):=by
 rw[show x*qE q=qE q*x by grind];exact hx.qm hq
theorem Bz.iq{e f:Nat}{q:Rat}{x:Et ts}(hx:Bz f x)(hq:Cb e [q])(h0:q≠0):Bz (e+f) (x*iE (qE q)):=by
 have h:(iE (qE q):Et ts)=qE (1/q):=wz _ _ q;rw[h];exact hx.mq (hq.inv1 h0)
theorem Bz.iv{r f j I:Nat}{y:Et ts}(tw:Tw ts r)(hy:Bz f y)(nb:Nl j (sX y))(hj:j<=ts.length)(h0:ao y≠0)(hI:iB r j f<=I)(hs:I<=50000000000):Bz I (iE y):=by
 have hf:=Ao r j f;have hl:=j5 ts.length;have e1:ae ts.length (sX y)=y:=bh _ _;obtain⟨L,_,k2,k3,k4⟩:=A4 (b:=sX y) tw hy hj nb (by rw[e1];exact h0) oz oz;rw[e1]at k4;have:=k3.sh k2;rw[k4]at this;exact⟨tw.five,eT _ _,this.mono hI⟩
structure Pz(n ec ex:Nat)(p:Pq):Prop where
  c:Nm n ec p.c
  s:Nm n ec p.s
  x:Nm n ex p.x
  y:Nm n ex p.y
theorem Pz.mono{n n' a b a' b':Nat}{p:Pq}(h:Pz n a b p)(hn:n<=n')(h5:n'<=5)(ha:a<=a')(hb:b<=b'):Pz n' a' b' p :=
 ⟨⟨h5,h.c.nl.mono hn,h.c.cb.mono ha⟩,⟨h5,h.s.nl.mono hn,h.s.cb.mono ha⟩,⟨h5,h.x.nl.mono hn,h.x.cb.mono hb⟩,⟨h5,h.y.nl.mono hn,h.y.cb.mono hb⟩⟩
theorem Jp{s t e f:Nat}{u p:Rat×Rat}{w o:P2 ts}(hu:Sm t u)(hp:Sm s p)(h0:b9 u u≠0)(w1:Bz e w.1)(w2:Bz e w.2)(o1:Bz f o.1)(o2:Bz f o.2) :
  Pz ts.length (2*e+6*t+2) (f+4*e+12*t+2*s+6) (gL u w p o):=by
 have u1:=Cb.one hu.x;have u2:=Cb.one hu.y;have p1:=Cb.one hp.x;have p2:=Cb.one hp.y;have n:=Cb.one (hu.dot hu);have c:=(((w1.qm u1).add (w2.qm u2)).iq n h0).mono (f:=2*e+6*t+2) oz;have d:=(((w2.qm u1).sub (w1.qm u2)).iq n h0).mono (f:=2*e+6*t+2) oz;exact⟨c,d,(o1.sub ((c.mq p1).sub (d.mq p2))).mono oz,(o2.sub ((d.mq p1).add (c.mq p2))).mono oz⟩
theorem rQ{a:List Rat}{e:Nat}(h:Nm ts.length e a):Bz e (dE ts a):=by
 have:=h.cb.sh h.nl;exact⟨h.five,eT _ _,this⟩
theorem Xa{s f:Nat}{p:Rat×Rat}{c d:Rat}{o:P2 ts}{g:Nat}(hc:Cb g [c])(hd:Cb g [d])(hp:Sm s p)(h5:ts.length<=5)(o1:Bz f o.1)(o2:Bz f o.2) :
  Pz ts.length (g+1) (f+2*g+2*s+4) (gL (((1:Int):Rat),0) ((qE c,qE d):P2 ts) p o):=by
 have e0:∀x:Et ts,(qE ((1:Int):Rat):Et ts)*x=x:=fun x=>by
  have:(qE ((1:Int):Rat):Et ts)=1:=rfl;rw[this];grind
 have e1:∀x:Et ts,(qE (0:Rat):Et ts)*x=0:=fun x=>by
  have:(qE (0:Rat):Et ts)=0:=rfl;rw[this];grind
 have e2:(iE (ky (((1:Int):Rat),0)):Et ts)=1:=by
  show iE (qE (b9 (((1:Int):Rat),0) (((1:Int):Rat),0)))=_;rw[show b9 (((1:Int):Rat),(0:Rat)) (((1:Int):Rat),(0:Rat))=1 by decide +kernel];exact Bm
 have ec:dF (((1:Int):Rat),0) ((qE c,qE d):P2 ts)=qE c:=by
  unfold dF;rw[e0,e1,e2];grind
 have ed:dt (((1:Int):Rat),0) ((qE c,qE d):P2 ts)=qE d:=by
  unfold dt;rw[e0,e1,e2];grind
 have p1:=Cb.one hp.x;have p2:=Cb.one hp.y;have c1:Bz g (qE c:Et ts):=Bz.q h5 hc;have d1:Bz g (qE d:Et ts):=Bz.q h5 hd;refine⟨?_,?_,?_,?_⟩
 ·show Bz _ (dF _ _);rw[ec];exact c1.mono oz
 ·show Bz _ (dt _ _);rw[ed];exact d1.mono oz
 ·show Bz _ (rK _ _ p o);unfold rK;rw[ec,ed];exact(o1.sub ((c1.mq p1).sub (d1.mq p2))).mono oz
 ·show Bz _ (qu _ _ p o);unfold qu;rw[ec,ed];exact(o2.sub ((d1.mq p1).add (c1.mq p2))).mono oz
structure Xz(ts:LL)(r X:Nat)(us:LL):Prop where
  tw:Tw us (r+X)
  up:ts.length<=us.length
  ln:us.length<=ts.length+1
theorem zx{r X:Nat}(tw:Tw ts r)(hx:r+X<=5000000000):Xz ts r X ts:=⟨⟨tw.three,tw.len,tw.pos,tw.rb.mono oz,hx⟩,aau _,by omega⟩
theorem w8{r X:Nat}(tw:Tw ts r)(hn:ts.length<=1)(hx:r+X<=5000000000){x:Et ts}(h:Bz X x)(hs:0<=ao x):Xz ts r X (aU ts (sX x)) :=
 ⟨zy tw oz h hx (by rw[show ae ts.length (sX x)=x from bh _ _];exact hs),by rw[dQ];omega,by rw[dQ];omega⟩
theorem Bz.up{e:Nat}{X x:Et ts}(h:Bz e x)(hn:ts.length<=1):Bz e (aP X x):=by
 have h1:Nm (aU ts (sX X)).length e (sX x):=mx h oz;exact rQ h1
structure Szs(n r a b X K K' I J:Nat):Prop where
  n1:n<=1
  hK:eB r n<=K
  hX:24*a+8*K+5*b+23<=X
  hL:r+X<=5000000000
  hK':eB (r+X) (n+1)<=K'
  hI:iB r n (8*a+2*K+8)<=I
  hJ:iB (r+X) n (8*a+2*K+8)<=J
  hJ':J<=50000000000
  kk:K<=K'
  ij:I<=J
theorem Szs.kx{n r a b X K K' I J:Nat}(h:Szs n r a b X K K' I J){us:LL}(hu:us.length<=n+1):eB (r+X) us.length<=K':=abe (gX _ hu) h.hK'
section
variable{r a b X K K' I J:Nat}(Z:Szs ts.length r a b X K K' I J)(tw:Tw ts r)
include Z tw
theorem Cz{p q:P2 ts}(p1:Bz a p.1)(p2:Bz a p.2)(q1:Bz a q.1)(q2:Bz a q.2):Bz (8*a+2*K+5) (dm (aQ q p) (aQ q p)):=by
 have v1:=q1.sub p1;have v2:=q2.sub p2;exact((v1.mul tw Z.hK v1).add (v2.mul tw Z.hK v2)).mono oz
theorem zV{y:Et ts}(hy:Bz (8*a+2*K+8) y)(h0:ao y≠0):Bz I (iE y) :=
 hy.iv tw (eT _ _) (aau _) h0 Z.hI (by have:=Z.ij;have:=Z.hJ';omega)
theorem Cn{x y:Et ts}(hx:Bz X x)(hs:0<=ao x)(hy:Bz (8*a+2*K+8) y)(h0:ao y≠0):Bz J (iE (aP x y)):=by
 have E:=w8 tw Z.n1 Z.hL hx hs
 have e1:sX (aP x y)=sX y:=by
  have:=(vK (X:=x) Z.n1 _ y hy).2;exact this
 refine(hy.up Z.n1).iv E.tw (j:=ts.length) (by rw[e1];exact eT _ _) E.up (by rw[o8];exact h0) Z.hJ Z.hJ'
theorem yV{x:Et ts}:Bz 1 (dE (aU ts (sX x)) (cC ts.length)):=by have _:=tw;exact rQ (ud (by have:=Z.n1;omega))
theorem OT{p q:P2 ts}{z z2:Et ts}(p1:Bz a p.1)(p2:Bz a p.2)(q1:Bz a q.1)(q2:Bz a q.2)(hz:Bz b z)(hz2:Bz b z2)(h0:fQ p q z z2=0) :
  Xz ts r X (er p q z z2).ts/\∀m∈(er p q z z2).ps,Nm (er p q z z2).ts.length (13*a+2*b+5*K+2*K'+I+J+20) m.1/\Nm (er p q z z2).ts.length (13*a+2*b+5*K+2*K'+I+J+20) m.2:=by
 have hn:=Z.n1;have hkk:=Z.kk;have hd:Bz (8*a+2*K+5) (aA p q):=Cz Z tw (p:=q) (q:=p) q1 q2 p1 p2;have hm:=(hz.add hd).sub hz2;have q4:Cb 3 [((4:Int):Rat)]:=Cb.int (z:=4) (by decide);have q2':Cb 2 [((2:Int):Rat)]:=Cb.int (z:=2) (by decide);have qm1:Cb 1 [((-1:Int):Rat)]:=Cb.int (z:=-1) (by decide)
 have hX:Bz X (bj p z q z2):=by
  have h:=((hz.mul tw Z.hK hd).qm q4).sub (hm.mul tw Z.hK hm);have h2:=h.mono (f:=X) (by have:=Z.hX;omega);exact h2
 have same:=zx (X:=X) tw Z.hL;have v1:=q1.sub p1;have v2:=q2.sub p2;unfold fQ l8 at h0;unfold er lQ
 by_cases hs:ao (aA p q)=0
 ·rw[ab6 hs]at h0 ⊢
  by_cases hz0:ao (z-z2)≠0
  ·rw[ab6 hz0];exact⟨same,fun m hm=>by cases hm⟩
  ·rw[ab5 hz0]
   by_cases hp:0<ao z
   ·rw[ab6 ⟨aao.1 hz0,hp⟩]at h0;cases h0
   ·rw[ab5 hp]
    have n0:Bz 0 (0:Et ts):=by
     have:=Bz.q (ts:=ts) (e:=0) (q:=0) oz (Cb.int (z:=0) (by decide));exact this
    refine⟨same,iP ⟨?_,?_⟩⟩
    ·exact(p1.add (n0.mul tw Z.hK p1)).mono (f:=13*a+2*b+5*K+2*K'+I+J+20) oz
    ·exact(p2.add (n0.mul tw Z.hK p2)).mono (f:=13*a+2*b+5*K+2*K'+I+J+20) oz
 ·rw [ab5 hs];have ht0:ao (eP (aA p q)) ≠ 0:=by rw [v8 tw]; exact hs
  have ht:Bz (8*a+2*K+8) (eP (aA p q)):=Bz.mono (e:=2+(8*a+2*K+5)) (hd.qm q2') oz
  by_cases hx0:ao (bj p z q z2)<0
  ·rw[ab6 hx0];exact⟨same,fun m hm=>by cases hm⟩
  ·rw[ab5 hx0];have hk:=hm.mul tw Z.hK (zV Z tw ht ht0);have f1:Bz (11*a+2*b+4*K+I+10) (dj p q z z2).1:=(p1.add (hk.mul tw Z.hK v1)).mono oz;have f2:Bz (11*a+2*b+4*K+I+10) (dj p q z z2).2:=(p2.add (hk.mul tw Z.hK v2)).mono oz
   by_cases hx1:ao (bj p z q z2)=0
   ·rw[ab6 hx1];exact⟨same,iP ⟨f1.mono oz,f2.mono oz⟩⟩
   ·rw [ab5 hx1];have hpos:0 <= ao (bj p z q z2):=by omega
    have E:=w8 tw hn Z.hL hX hpos;have hkx:=Z.kx E.ln;have s1:=(yV Z tw (x:=bj p z q z2)).mul E.tw hkx (Cn Z tw hX hpos ht ht0);have s2:=s1.qm qm1;have w1:=(v2.up (X:=bj p z q z2) hn).qm qm1;have w2:=v1.up (X:=bj p z q z2) hn;have g1:=f1.up (X:=bj p z q z2) hn;have g2:=f2.up (X:=bj p z q z2) hn;exact⟨E,lT ⟨(g1.add (s1.mul E.tw hkx w1)).mono oz,(g2.add (s1.mul E.tw hkx w2)).mono oz⟩ ⟨(g1.add (s2.mul E.tw hkx w1)).mono oz,(g2.add (s2.mul E.tw hkx w2)).mono oz⟩⟩
theorem Ng{p q o:P2 ts}{z:Et ts}(p1:Bz a p.1)(p2:Bz a p.2)(q1:Bz a q.1)(q2:Bz a q.2)(o1:Bz a o.1)(o2:Bz a o.2)(hz:Bz b z)(h0:fR p q=0) :
  Xz ts r X (d8 p q o z).ts/\∀m∈(d8 p q o z).ps,Nm (d8 p q o z).ts.length (13*a+2*b+5*K+2*K'+I+J+20) m.1/\Nm (d8 p q o z).ts.length (13*a+2*b+5*K+2*K'+I+J+20) m.2:=by
 have hn:=Z.n1;have hkk:=Z.kk;have hS:=(Cz Z tw p1 p2 q1 q2)
 have v1:=q1.sub p1;have v2:=q2.sub p2;have w1:=o1.sub p1;have w2:=o2.sub p2;have hE:Bz (8*a+2*K+5) (bQ p q o):=((v1.mul tw Z.hK w1).add (v2.mul tw Z.hK w2)).mono oz;have hC:Bz (8*a+2*K+5) (iw p q o):=((v1.mul tw Z.hK w2).sub (v2.mul tw Z.hK w1)).mono oz;have hX:Bz X (aX p q o z):=((hS.mul tw Z.hK hz).sub (hC.mul tw Z.hK hC)).mono (by have:=Z.hX;omega);have same:=zx (X:=X) tw Z.hL;unfold fR at h0;unfold d8
 by_cases hs:ao (bm p q)=0
 ·rw[ab6 hs]at h0;cases h0
 ·rw[ab5 hs]
  by_cases h1:ao (aX p q o z)=-1
  ·rw[ab6 h1];exact⟨same,fun m hm=>by cases hm⟩
  ·rw[ab5 h1]
   by_cases h2:ao (aX p q o z)=0
   ·rw[ab6 h2];have hk:=hE.mul tw Z.hK (zV Z tw (hS.mono oz) hs);exact⟨same,iP ⟨(p1.add (hk.mul tw Z.hK v1)).mono (f:=13*a+2*b+5*K+2*K'+I+J+20) oz,(p2.add (hk.mul tw Z.hK v2)).mono (f:=13*a+2*b+5*K+2*K'+I+J+20) oz⟩⟩
   ·rw[ab5 h2]
    have hpos:0<=ao (aX p q o z):=by
     have:=T.sgn_cases (au ts) ts.length (aX p q o z);have e:ao (aX p q o z)=T.sgn (au ts) ts.length (aX p q o z):=rfl;omega
    have E:=w8 tw hn Z.hL hX hpos;have hkx:=Z.kx E.ln;have hi:=Cn Z tw hX hpos (hS.mono oz) hs;have rt:=yV Z tw (x:=aX p q o z);have k1:=((hE.up (X:=aX p q o z) hn).add rt).mul E.tw hkx hi;have k2:=((hE.up (X:=aX p q o z) hn).sub rt).mul E.tw hkx hi;have g1:=p1.up (X:=aX p q o z) hn;have g2:=p2.up (X:=aX p q o z) hn;have u1:=v1.up (X:=aX p q o z) hn;have u2:=v2.up (X:=aX p q o z) hn;exact⟨E,lT ⟨(g1.add (k1.mul E.tw hkx u1)).mono oz,(g2.add (k1.mul E.tw hkx u2)).mono oz⟩ ⟨(g1.add (k2.mul E.tw hkx u1)).mono oz,(g2.add (k2.mul E.tw hkx u2)).mono oz⟩⟩
end
end
def Cs(s:Nat)(l:Li):Prop:=∀b∈l.bo,∀m∈b.pts,Qb s m.x.q/\Qb s m.y.q
section
variable{s:Nat}{l:Li}(hl:l.ok)(hli:aN l=0)(hcs:Cs s l)
include hl hli hcs
theorem uP{body pt:Int}(h1:bA body l.bo.length=true)(h2:bA pt (cO l body).length=true):Sm s (aM l body pt):=by
 obtain⟨n,k,bd,m,h⟩:=oN hl hli h1 h2;obtain⟨c1,c2⟩:=hcs bd (aap h.gbd) m (aap h.gm);rw[h.ex,cc]at c1;rw[h.ey,cc]at c2;exact⟨c1,c2⟩
theorem pN{i:Nat}{j:Jt}(hj:l.jo[i]?=some j){b:Int}(h:j.a=b\/j.b=b):Sm s (ai l j b):=by
 obtain⟨i1,i2,i3,i4,_⟩:=cF hli hj;unfold ai
 by_cases e:j.a=b
 ·rw[ab6 e];subst e;exact uP hl hli hcs i1 i3
 ·rw[ab5 e];rcases h with h |h
  ·exact acc h e
  ·subst h;exact uP hl hli hcs i2 i4
theorem tQ{E r K:Nat}{a:As}(al:AB a)(hc:bM a.rs=0)(tw:Tw (llq a.rs) r)(hK:eB r (llq a.rs).length<=K){body pt:Int}(h1:bA body l.bo.length=true)(h2:bA pt (cO l body).length=true)(hb:Pd E a body) :
  Bz (3*E+2*s+2*K+10) (aZ l a body pt).1/\Bz (3*E+2*s+2*K+10) (aZ l a body pt).2:=by
 obtain⟨n,k,bd,m,b,hp⟩:=p8 hl hli al hc h1 h2 hb;obtain⟨c1,c2⟩:=hcs bd (aap hp.mp.gbd) m (aap hp.mp.gm);have h:=uG tw hp.ok c1 c2;have hk:kB r (llq a.rs).length<=K:=hK;unfold aZ Bz;rw[hp.eq];exact⟨h.1.mono oz,h.2.mono oz⟩
theorem u4{E r K:Nat}{a:As}(al:AB a)(hc:bM a.rs=0)(tw:Tw (llq a.rs) r)(hK:eB r (llq a.rs).length<=K){i:Nat}{j:Jt}(hj:l.jo[i]?=some j){b:Int}(h:PinP E l a j b) :
  Bz (3*E+2*s+2*K+10) (aw l a j b).1/\Bz (3*E+2*s+2*K+10) (aw l a j b).2:=by
 obtain⟨i1,i2,i3,i4,_⟩:=cF hli hj;unfold aw;rcases h.tie with⟨e,hb⟩ |⟨e,e2,hb⟩
 ·rw[ab6 e];exact tQ hl hli hcs al hc tw hK i2 i4 hb
 ·rw[ab5 e];exact tQ hl hli hcs al hc tw hK i1 i3 hb
end
theorem Bz.upX{ts us:LL}{e:Nat}{x:Et ts}(h:Bz e x)(h1:ts.length<=us.length)(h5:us.length<=5):Bz e (dE us (sX x)):=rQ ⟨h5,Nl.mono h.nl h1,h.cb⟩
theorem Aa{s:Nat}{p q:Rat×Rat}(hp:Sm s p)(hq:Sm s q):Cb (8*s+5) [ba p q]:=by
 have h:=(hp.sub hq).dot (hp.sub hq);exact Cb.one (h.mono oz)
abbrev wZ(a b K K' I J:Nat):Nat:=14*a+3*b+5*K+3*K'+I+J+25
abbrev oZ(s a b K K' I J:Nat):Nat:=a+4*wZ a b K K' I J+26*s+18
theorem BM{n a b ec ex e:Nat}{p:Pq}(h:Pz n ec ex p)(h1:ec<=e)(h2:ex<=e):Pq.ok n e p:=⟨h.c.mono h1,h.s.mono h1,h.x.mono h2,h.y.mono h2⟩
section
variable{ts:LL}{r a b X K K' I J:Nat}(Z:Szs ts.length r a b X K K' I J)(tw:Tw ts r)
include Z tw
theorem Eo{s:Nat}{m:Mt}(hx:Xz ts r X m.ts)(hm:∀x∈m.ps,Nm m.ts.length (13*a+2*b+5*K+2*K'+I+J+20) x.1/\Nm m.ts.length (13*a+2*b+5*K+2*K'+I+J+20) x.2){hs:List Hd}
  (hh:∀h∈hs,Sm s h.p/\Sm s h.c/\b9 (bX h.c h.p) (bX h.c h.p)≠0/\∃o:P2 ts,h.a=P2.l o/\Bz a o.1/\Bz a o.2) :
  ∀sv∈jT m hs,Xz ts r X sv.ts/\∀p∈sv.ps,Pq.ok sv.ts.length (oZ s a b K K' I J) p:=by
 have _:=Z;have _:=tw;intro sv h1;unfold jT at h1;obtain⟨i,hi,rfl⟩:=Y8.1 h1;obtain⟨x,hxx⟩:=ay (Y3.1 hi);obtain⟨n1,n2⟩:=hm x (aap hxx);refine⟨hx,fun p hp=>?_⟩;unfold j8 at hp;rw[aq hxx]at hp;obtain⟨h,h2,rfl⟩:=Y8.1 hp;obtain⟨hp1,hc1,h0,o,ea,o1,o2⟩:=hh h h2;have h5:=hx.tw.five;have u1:=o1.upX hx.up h5;have u2:=o2.upX hx.up h5;have w1:=rQ n1;have w2:=rQ n2;have e1:h.a.1=sX o.1:=by rw[ea]
 have e2:h.a.2=sX o.2:=by rw[ea]
 have z:=Jp (ts:=m.ts) (u:=bX h.c h.p) (p:=h.p) (w:=jE m.ts h x) (o:=kI m.ts h) (e:=13*a+2*b+5*K+2*K'+I+J+20+a+1) (f:=a) (hc1.sub hp1) hp1 h0
  (by unfold jE;rw[e1];exact w1.sub u1) (by unfold jE;rw[e2];exact w2.sub u2) (by unfold kI;rw[e1];exact u1) (by unfold kI;rw[e2];exact u2)
 exact BM (a:=a) (b:=b) z (by show _<=a+4*(14*a+3*b+5*K+3*K'+I+J+25)+26*s+18;omega) (by show _<=a+4*(14*a+3*b+5*K+3*K'+I+J+25)+26*s+18;omega)
theorem Vx{s:Nat}{us:LL}(hx:Xz ts r X us){R:Rp}{q:List Rat}(hv:Sm (2*s+1) R.v)(hp:Sm s R.p)(h0:b9 R.v R.v≠0)(hq:Bz 1 (dE us q))(w1:Bz (2*a+1) (dE us R.w.1))(w2:Bz (2*a+1) (dE us R.w.2))(hh:Bz b (dE us R.h))
  (hd:Bz J (iE (dE us R.d))) (a1:Bz a (dE us R.a.1)) (a2:Bz a (dE us R.a.2)):Pq.ok us.length (oZ s a b K K' I J) (nF us R q):=by
 have _:=tw;have hkx:=Z.kx hx.ln;have x1:=(((hq.mul hx.tw hkx w1).sub (hh.mul hx.tw hkx w2.neg)).mul hx.tw hkx hd)
 have x2:=(((hq.mul hx.tw hkx w2).sub (hh.mul hx.tw hkx w1)).mul hx.tw hkx hd)
 have z:=Jp (ts:=us) (u:=R.v) (p:=R.p) (w:=n8 us q R.h R.d R.w) (o:=(dE us R.a.1,dE us R.a.2)) (e:=wZ a b K K' I J) (f:=a) hv hp h0
  (x1.mono (by show _<=14*a+3*b+5*K+3*K'+I+J+25;omega)) (x2.mono (by show _<=14*a+3*b+5*K+3*K'+I+J+25;omega)) a1 a2
 exact BM (a:=a) (b:=b) z (by show _<=a+4*(14*a+3*b+5*K+3*K'+I+J+25)+26*s+18;simp only[wZ];omega) (by show _<=a+4*(14*a+3*b+5*K+3*K'+I+J+25)+26*s+18;simp only[wZ];omega)
end
section
variable{s r b X K K' I J E:Nat}{l:Li}{a:As}(D:DyR l a)(hn:(llq a.rs).length<=1)(hcs:Cs s l)(tw:Tw (llq a.rs) r)
  (Z:Szs (llq a.rs).length r (3*E+2*s+2*K+10) b X K K' I J) (hb:8*s+5<=b)
include D hn hcs tw Z hb
theorem NL{g:Gr}{i k z0 z1 z2:Int}{j0 j1 j2:Jt}(P:RrrP E l a g i k z0 z1 z2 j0 j1 j2) :
  ∀sv∈jw l a i k j0 j1 j2,Xz (llq a.rs) r X sv.ts/\∀p∈sv.ps,Pq.ok sv.ts.length (oZ s (3*E+2*s+2*K+10) b K K' I J) p:=by
 have _:=hn;have hq0:=pN D.hl D.li hcs P.h0 P.p0.or;have hq1:=pN D.hl D.li hcs P.h1 P.p1.or;have hq2:=pN D.hl D.li hcs P.h2 P.t1;have hq3:=pN D.hl D.li hcs P.h2 P.t2;obtain⟨y1,y2⟩:=u4 D.hl D.li hcs D.al D.hc tw Z.hK P.h0 P.p0;obtain⟨y3,y4⟩:=u4 D.hl D.li hcs D.al D.hc tw Z.hK P.h1 P.p1;have z1:Bz b (qE (ba (ai l j2 i) (ai l j0 i)):Et (llq a.rs)):=Bz.q tw.five ((Aa hq2 hq0).mono hb);have z2:Bz b (qE (ba (ai l j2 k) (ai l j1 k)):Et (llq a.rs)):=Bz.q tw.five ((Aa hq3 hq1).mono hb);unfold jw
 by_cases h1:gV [bX (ai l j2 i) (ai l j0 i),bX (ai l j2 k) (ai l j1 k)]=true
 ·rw[ab6 h1];intro sv h;cases h
 ·rw[ab5 h1];obtain⟨w1,w2⟩:=uS (ZY.2 h1)
  by_cases h2:fQ (aw l a j0 i) (aw l a j1 k) (qE (ba (ai l j2 i) (ai l j0 i))) (qE (ba (ai l j2 k) (ai l j1 k)))≠0
  ·rw[ab6 h2];intro sv h;cases h
  ·rw[ab5 h2];obtain⟨hx,hm⟩:=OT Z tw y1 y2 y3 y4 z1 z2 (aao.1 h2);exact Eo Z tw hx hm (lT ⟨hq0,hq2,w1,_,rfl,y1,y2⟩ ⟨hq1,hq3,w2,_,rfl,y3,y4⟩)
theorem Ub{g:Gr}{i z0 z1:Int}{j0 j:Jt}(P:SlP E l a g 2 i z0 z1 j0 j)(ha:j.a=i)(hbd:Pd E a j.b) :
  ∀sv∈jP l a i j0 j,Xz (llq a.rs) r X sv.ts/\∀p∈sv.ps,Pq.ok sv.ts.length (oZ s (3*E+2*s+2*K+10) b K K' I J) p:=by
 have _:=hn;obtain⟨i1,i2,i3,i4,i5⟩:=cF D.li P.h1;have hq2:Sm s (aM l i j.point):=by rw[<- ha];exact uP D.hl D.li hcs i1 i3
 have hq0:=pN D.hl D.li hcs P.h0 P.p0.or;obtain⟨y1,y2⟩:=u4 D.hl D.li hcs D.al D.hc tw Z.hK P.h0 P.p0;obtain⟨y3,y4⟩:=tQ D.hl D.li hcs D.al D.hc tw Z.hK i2 i4 hbd;obtain⟨y5,y6⟩:=tQ D.hl D.li hcs D.al D.hc tw Z.hK i2 (i5 P.hk) hbd;have z1:Bz b (qE (ba (aM l i j.point) (ai l j0 i)):Et (llq a.rs)):=Bz.q tw.five ((Aa hq2 hq0).mono hb);unfold jP
 by_cases h1:gV [bX (aM l i j.point) (ai l j0 i)]=true
 ·rw[ab6 h1];intro sv h;cases h
 ·rw[ab5 h1];have w1:=uK (ZY.2 h1)
  by_cases h2:fR (aZ l a j.b j.on) (aZ l a j.b j.to)≠0
  ·rw[ab6 h2];intro sv h;cases h
  ·rw[ab5 h2];obtain⟨hx,hm⟩:=Ng Z tw y3 y4 y5 y6 y1 y2 z1 (aao.1 h2);exact Eo Z tw hx hm (iP ⟨hq0,hq2,w1,_,rfl,y1,y2⟩)
theorem Mn{g:Gr}{i z0 z1:Int}{j0 j:Jt}(P:SlP E l a g 3 i z0 z1 j0 j)(hj:j.b=i)(hbd:Pd E a j.a) :
  ∀sv∈jR l a i j0 j,Xz (llq a.rs) r X sv.ts/\∀p∈sv.ps,Pq.ok sv.ts.length (oZ s (3*E+2*s+2*K+10) b K K' I J) p:=by
 obtain⟨i1,i2,i3,i4,i5⟩:=cF D.li P.h1;have hs0:=pN D.hl D.li hcs P.h0 P.p0.or;have hs1:Sm s (aM l i j.on):=by rw[<- hj];exact uP D.hl D.li hcs i2 i4
 have hs2:Sm s (aM l i j.to):=by rw[<- hj];exact uP D.hl D.li hcs i2 (i5 P.hk)
 have hv:Sm (2*s+1) (cw l i j):=(hs2.sub hs1).mono oz;have qn:Cb b [ft l i j]:=(Cb.one (hv.dot hv)).mono oz;have qh:Cb b [bP l i j0 j]:=(Cb.one (hv.cross (hs1.sub hs0))).mono oz;obtain⟨o1,o2⟩:=u4 D.hl D.li hcs D.al D.hc tw Z.hK P.h0 P.p0;obtain⟨p1,p2⟩:=tQ D.hl D.li hcs D.al D.hc tw Z.hK i1 i3 hbd;have w1:Bz (2*(3*E+2*s+2*K+10)+1) (bT l a i j0 j).1:=Bz.mono (p1.sub o1) oz;have w2:Bz (2*(3*E+2*s+2*K+10)+1) (bT l a i j0 j).2:=Bz.mono (p2.sub o2) oz;have hd:Bz (8*(3*E+2*s+2*K+10)+2*K+8) (bY l a i j0 j):=Bz.mono (Cz Z tw (p:=aw l a j0 i) (q:=aZ l a j.a j.point) o1 o2 p1 p2) oz;have hX:Bz X (bw l a i j0 j):=Bz.mono ((hd.qm qn).sub ((Bz.q tw.five qh).qm qh)) (by have:=Z.hX;omega);have h0:=wA D.li P.h1 P.hk hj;unfold jR
 by_cases h1:ao (bY l a i j0 j)=0/\ao (qE (bP l i j0 j):Et (llq a.rs))=0
 ·rw[ab6 h1];intro sv h;cases h
 ·rw[ab5 h1]
  by_cases h2:ao (bw l a i j0 j)<0
  ·rw[ab6 h2];intro sv h;cases h
  ·rw[ab5 h2];have hd0:ao (bY l a i j0 j)≠0:=uJ tw h2 h1
   have key:∀us,Xz (llq a.rs) r X us->Bz J (iE (dE us (sX (bY l a i j0 j))))->∀q,Bz 1 (dE us q)->Pq.ok us.length (oZ s (3*E+2*s+2*K+10) b K K' I J) (nF us (dz l a i j0 j) q):=by
    intro us hx hi q hq;have h5:=hx.tw.five
    have hh:Bz b (dE us (sh 0 (bP l i j0 j:Rat))):=by
     have e:dE us (sh 0 (bP l i j0 j:Rat))=qE (bP l i j0 j):=fL _ _;rw[e];exact Bz.q h5 qh
    exact Vx Z tw hx (R:=dz l a i j0 j) hv hs0 h0 hq (w1.upX hx.up h5) (w2.upX hx.up h5) hh hi (o1.upX hx.up h5) (o2.upX hx.up h5)
   by_cases h3:0<ao (bw l a i j0 j)
   ·rw [ab6 h3];have hx:=w8 tw hn Z.hL hX oz;have hi:=Cn Z tw hX (by omega:0 <= ao (bw l a i j0 j)) hd hd0;have rt:=yV Z tw (x:=bw l a i j0 j);have k:=key _ hx hi;intro sv h;unfold jF at h;obtain ⟨n,hn2,rfl⟩:=Y8.1 h;refine ⟨hx,fun p hp=>?_⟩;unfold iY at hp;rw [Za.1 hp]
    match n,Y3.1 hn2 with
    |0,_=>exact k _ rt
    |1,_ =>
     refine k _ ?_;show Bz 1 (dE _ (sX (-bE (bw l a i j0 j))));have e:dE (aU (llq a.rs) (sX (bw l a i j0 j))) (sX (-bE (bw l a i j0 j)))=-bE (bw l a i j0 j):=bh _ _;rw[e];exact rt.neg
   ·rw[ab5 h3];have hx:=zx (X:=X) tw Z.hL;have e:dE (llq a.rs) (sX (bY l a i j0 j))=bY l a i j0 j:=bh _ _
    have hi:Bz J (iE (dE (llq a.rs) (sX (bY l a i j0 j)))):=by
     rw[e];exact(zV Z tw hd hd0).mono Z.ij
    have k:=key _ hx hi;intro sv h;unfold jF at h;obtain⟨n,hn2,rfl⟩:=Y8.1 h;refine⟨hx,fun p hp=>?_⟩;unfold iY at hp;rw[Za.1 hp]
    match n,Y3.1 hn2 with
    |0,_=>exact k _ (rQ ⟨tw.five,.inl rfl,⟨1,0,⟨by decide,fun q h=>by cases h⟩,by decide,by decide⟩⟩)
end
theorem GR{k:List Bool}{i:Nat}{b:Int}(h:kn (k.set i true) b=true):kn k b=true\/i=b.toNat:=by
 unfold kn at h ⊢
 by_cases e:i=b.toNat
 ·exact .inr e
 ·rw[aaq,List.getElem?_set_ne e,<- aaq]at h;exact .inl h
theorem zY:∀(bs:List Int){k:List Bool}{b:Int},kn (bJ k bs) b=true->kn k b=true\/∃x∈bs,x.toNat=b.toNat
 |[],k,b,h=>.inl h
 |x::bs,k,b,h=>by
  have h:kn (bJ (k.set x.toNat true) bs) b=true:=h;rcases zY bs h with h |⟨y,hy,e⟩
  ·rcases GR h with h |h
   ·exact .inl h
   ·exact .inr ⟨x,abr,h⟩
  ·exact .inr ⟨y,abt _ hy,e⟩
def tt(l:Li)(kw:List Bool)(out:List Gr):Prop:=∀d∈l.dv,kn kw d.body=true->∃g∈out,g.kind=0/\g.bo=[d.body]
theorem OZ{l:Li}{d:Dr}(hd:d∈l.dv){b:Int}(h:d.body=b):mi l b=true:=by
 unfold mi;rw[Zz];exact⟨d,hd,by simp[h]⟩
theorem Dn{l:Li}{kw:List Bool}{g:Gr}(h:pairG l kw=some g):∀x∈g.bo,freeB l kw x=true:=by
 unfold pairG at h;rw[aas]at h;obtain⟨i,hi,h⟩:=h;obtain⟨h1,h2⟩:=fD hi;split at h
 ·rename_i k hk;subst h;unfold prAt at hk;rw [aas] at hk;obtain ⟨k',hk',rfl⟩:=hk;obtain ⟨h3,h4⟩:=fD hk';rw [show i + 1 + k' = k' + (i + 1) by omega] at h4;unfold prHit at h4;simp only [Z0,aaw,ab7] at h4;obtain ⟨⟨f1,f2⟩,_⟩:=h4;intro x hx;simp only [prG,abd,abb,or_false] at hx;rcases hx with rfl | rfl
  ·exact f1
  ·exact f2
 ·rename_i hk;rw[hk]at h2;cases h2
theorem Du{l:Li}{kw:List Bool}{g:Gr}(h:singleG l kw=some g):∀x∈g.bo,freeB l kw x=true:=by
 unfold singleG at h;rw[aas]at h;obtain⟨i,hi,rfl⟩:=h;obtain⟨h1,h2⟩:=fD hi;unfold sgHit at h2;simp only[Z0,aaw,ab7]at h2;intro x hx;simp only[sgG,abd,abb,or_false]at hx;subst hx;exact h2.1
theorem Ov{l:Li}(hl:aN l=0){kw:List Bool}{out:List Gr}{g:Gr}(h:tt l kw out)(hg:nextG l kw=some g):tt l (bJ kw g.bo) (out++[g]):=by
 intro d hd hk;have ho:=xz hl hg;rcases zY g.bo hk with h1 |⟨x,hx,e⟩
 ·obtain⟨g',h2,h3⟩:=h d hd h1;exact⟨g',List.mem_append_left _ h2,h3⟩
 ·obtain ⟨i, hi⟩:=aby hd;have hb:=df (lM hl hi);have hx0:=(ho.b x hx).1;have ex:d.body = x:=by omega
  unfold nextG at hg;cases h1:driverG l kw with
  |some g' =>
   rw[h1]at hg;cases hg
   refine⟨g,List.mem_append_right _ (Za.2 rfl),?_⟩;unfold driverG at h1;rw[aas]at h1;obtain⟨i,_,rfl⟩:=h1;refine⟨rfl,?_⟩;rw[Za.1 hx]at ex;rw[ex]
  |none =>
   rw[h1]at hg
   have hf:freeB l kw x=true:=by
    cases h2:pairG l kw with
    |some g'=>rw[h2]at hg;cases hg;exact Dn h2 x hx
    |none=>rw[h2]at hg;exact Du hg x hx
   unfold freeB at hf;rw[OZ hd ex]at hf;simp at hf
theorem I6{l:Li}(hl:aN l=0):∀(n:Nat)(kw:List Bool)(out:List Gr),tt l kw out->tt l (findFrom l n kw out).1 (findFrom l n kw out).2
 |0,kw,out,h=>h
 |n+1,kw,out,h=>by
  unfold findFrom;cases hg:nextG l kw with
  |none=>exact h
  |some g=>exact I6 hl n _ _ (Ov hl h hg)
theorem vE{l:Li}(hl:aN l=0){i:Nat}{d:Dr}(hd:l.dv[i]?=some d):d.body≠0/\∀j d',j<i->l.dv[j]?=some d'->d'.body≠d.body:=by
 have h1:=(dg hl).2.2.1;unfold ic at h1;split at h1
 ·cases h1
 ·have h2:=se h1 i (Y1.1 hd).1;unfold d9 at h2;rw[aq hd]at h2;split at h2
  ·cases h2
  ·split at h2
   ·cases h2
   ·split at h2
    ·cases h2
    ·split at h2
     ·cases h2
     ·rename_i h4;split at h2
      ·cases h2
      ·rename_i h5;refine⟨h4,fun j d' hj hd' e=>h5 ?_⟩;rw[Zz];exact⟨d',aap (by rw[abj,ab6 hj];exact hd'),by simpa using e⟩
theorem G8{α:Type}{p:α->Bool}:∀{l:List α}{x y:α},x∈l->y∈l->x≠y->p x=true->p y=true->2<=l.countP p
 |z::l,x,y,hx,hy,hn,px,py=>by
  have pos:∀w,w∈l->p w=true->0<l.countP p:=fun w hw pw=>List.countP_pos_iff.2 ⟨w,hw,pw⟩
  rcases abd.1 hx with e |hx
  ·rcases abd.1 hy with e2 |hy
   ·exact acc (e.trans e2.symm) hn
   ·have h9:=pos y hy py;rw[Ze (e▸px)];omega
  ·rcases abd.1 hy with e |hy
   ·have h9:=pos x hx px;rw[Ze (e▸py)];omega
   ·have:=G8 hx hy hn px py;rw[Zn];omega
theorem ym{l:Li}(hl:aN l=0):l.dv.length<=2:=by
 have h1:=(dg hl).2.2.1;unfold ic at h1;split at h1
 ·cases h1
 ·omega
theorem Iu{l:Li}(hl:aN l=0)(hs:splitE l=0):∀d∈l.dv,∃g∈splitG l,g.kind=0/\g.bo=[d.body]:=by
 have h0:tt l (cV l.bo.length 0) []:=by
  intro d hd hk;obtain⟨i,hi⟩:=aby hd;have hb:=df (lM hl hi);rw[pv oz oz oz]at hk;exact acc (ab8 hk) (vE hl hi).1
 have h1:=I6 hl l.bo.length _ _ h0;rw[E0]at h1;intro d hd;obtain⟨i,hi⟩:=aby hd;have hb:=df (lM hl hi)
 have hz:(eY (bZ l)).length=0:=by
  unfold splitE at hs;split at hs
  ·omega
  ·cases hs
 rw[vG]at hz
 have hlen:(bZ l).length=l.bo.length:=by
  have:∀(gs:List Gr)(k:List Bool),(gs.foldl (fun k g=>bJ k g.bo) k).length=k.length:=by
   intro gs
   induction gs with
   |nil=>intro k;rfl
   |cons g gs ih=>intro k;rw[foldl_cons,ih,jA]
  unfold bZ;rw[this,ir]
 have hk:kn (bZ l) d.body=true:=by
  unfold kn;rw[aaq,aat (by omega:d.body.toNat<(bZ l).length)];show(bZ l)[d.body.toNat]=true;cases hv:(bZ l)[d.body.toNat]'oz with
  |true=>rfl
  |false =>
   exfalso;have hm:false∈bZ l:=hv▸Zi _;rw[<- Zh]at hm;rw[hm]at hz;cases hz
 obtain⟨g,hg,h2⟩:=h1 d hd hk;refine⟨g,?_,h2⟩;unfold splitG;rw[ab6 hs];exact hg
theorem WE{l:Li}(hl:aN l=0)(hs:splitE l=0):l.dv.length<=(splitG l).countP (fun g=>decide (g.kind=0)):=by
 have h2:=ym hl;have hg:=Iu hl hs
 match hd:l.dv with
 |[]=>simp
 |[d] =>
  obtain⟨g,h3,h4,_⟩:=hg d (by rw[hd];simp);exact List.countP_pos_iff.2 ⟨g,h3,by simpa using h4⟩
 |[d,d'] =>
  obtain⟨g,h3,h4,h5⟩:=hg d (by rw[hd];simp);obtain⟨g',h3',h4',h5'⟩:=hg d' (by rw[hd];simp);refine G8 h3 h3' ?_ (by simpa using h4) (by simpa using h4');intro e;rw[e,h5']at h5;exact(vE hl (i:=1) (d:=d') (by rw[hd];rfl)).2 0 d oz (by rw[hd];rfl) (by simpa using h5.symm)
 |_::_::_::_=>rw[hd]at h2;simp only[aa4]at h2;omega
structure Aq where
  ts:LL
  bs:List Pq
  ms:List Int
instance:Inhabited Pq:=⟨⟨[],[],[],[]⟩⟩
instance:Inhabited Aq:=⟨⟨[],[],[]⟩⟩
def Pq.pl(p:Pq):Pl:=⟨p.c.map rt,p.s.map rt,p.x.map rt,p.y.map rt⟩
def Aq.as(a:Aq):As:=⟨a.ts.map (List.map rt),a.bs.map Pq.pl,a.ms⟩
theorem Pq.pl_av(p:Pq):p.pl.av=p.av:=by unfold Pl.av Pq.av Pq.pl;rw[eI,eI,eI,eI]
abbrev Aq.cs(a:Aq):List AV:=[.lst 1 (a.ts.map nA),.lst 4 (a.bs.map Pq.av),.lst 1 (a.ms.map i64)]
abbrev Aq.av(a:Aq):AV:=.agg a.cs
theorem Aq.as_av(a:Aq):a.as.av=a.av:=by
 unfold As.av Aq.as Aq.av Aq.cs;rw[map_map,map_map];congr 3
 ·exact YW (fun x _=>eI x)
 ·congr 1;exact YW (fun x _=>Pq.pl_av x)
theorem Aq.llq(a:Aq):Lw.llq a.as.rs=a.ts:=oH _
def a8(bs:List Pq)(is:List Int)(ps:List Pq):List Pq:=(is.zip ps).foldl (fun k x=>k.set x.1.toNat x.2) bs
def Aq.nxt(a:Aq)(g:Gr)(s:Sv):Aq:=⟨s.ts,a8 a.bs g.bo s.ps,a.ms++[s.mode]⟩
def a7:Pq:=⟨[],[],[],[]⟩
def lw:Pq:=⟨[1],[],[],[]⟩
def eW(l:Li):Aq:=⟨[],(Y6 l.bo.length a7).set 0 lw,[]⟩
def d6:Tn:=⟨⟨false,[],[]⟩,false⟩
def cB(g:Gr)(xs:List Tn):Tn:=if g.kind=0 then xs.getD g.driver.toNat d6 else d6
theorem FW:∀(zs:List (Int×Pq))(bs:List Pq),(zs.foldl (fun k x=>k.set x.1.toNat x.2) bs).length=bs.length
 |[],bs=>rfl
 |z::zs,bs=>by rw[foldl_cons,FW zs,ab4]
theorem G5:∀(zs:List (Int×Pq))(bs:List Pq)(p:Pq),p∈zs.foldl (fun k x=>k.set x.1.toNat x.2) bs->p∈bs\/∃z∈zs,z.2=p
 |[],bs,p,h=>.inl h
 |z::zs,bs,p,h=>by
  rw[foldl_cons]at h;rcases G5 zs _ p h with h |⟨z',hz,e⟩
  ·rcases Zo h with h |h
   ·exact .inl h
   ·exact .inr ⟨z,abr,h.symm⟩
  ·exact .inr ⟨z',abt _ hz,e⟩
theorem w9(bs:List Pq)(is:List Int)(ps:List Pq):(a8 bs is ps).length=bs.length:=FW _ _
theorem DH{bs:List Pq}{is:List Int}{ps:List Pq}{p:Pq}(h:p∈a8 bs is ps):p∈bs\/p∈ps:=by
 rcases G5 _ _ _ h with h |⟨z,hz,e⟩
 ·exact .inl h
 ·exact .inr (e▸(List.of_mem_zip hz).2)
theorem S9{bs:List Pq}{is:List Int}{ps:List Pq}{i:Nat}{b:Int}{p:Pq}(hb:is[i]?=some b)(hp:ps[i]?=some p) :
  a8 bs (is.take (i+1)) (ps.take (i+1))=(a8 bs (is.take i) (ps.take i)).set b.toNat p:=by
 have h1:is.take (i+1)=is.take i++[b]:=by rw[List.take_add_one,hb];rfl
 have h2:ps.take (i+1)=ps.take i++[p]:=by rw[List.take_add_one,hp];rfl
 have hl1:=(Y1.1 hb).1;have hl2:=(Y1.1 hp).1;unfold a8;rw[h1,h2,List.zip_append (by rw[abc,abc];omega),List.foldl_append];rfl
def lX(s j r E:Nat):Nat:=3*E+2*s+2*eB r j+10
def kK(s j r E:Nat):Nat:=24*lX s j r E+8*eB r j+5*(8*s+5)+23
def Ke(s j r E:Nat):Nat:=iB r j (8*lX s j r E+2*eB r j+8)
def wI(s j r E:Nat):Nat:=iB (r+kK s j r E) j (8*lX s j r E+2*eB r j+8)
def sQ(s j r E:Nat):Nat:=oZ s (lX s j r E) (8*s+5) (eB r j) (eB (r+kK s j r E) (j+1)) (Ke s j r E) (wI s j r E)
def nE(s g j r E:Nat):Nat:=lX s j r E+2*g+2*s+4
def eQ(s g:Nat):Nat->Nat->Nat->Nat->Nat->Bool
  |0,_,j,r,E=>decide (E<=3200000000/\r<=60000000/\j<=2)
  |n+1,y,j,r,E=>decide (E<=3200000000/\r<=60000000/\j<=2)&&(eQ s g n y j r (nE s g j r E) &&
      (decide (y=0)||(decide (j<=1/\E<=3900000/\r<=64990/\r+kK s j r E<=5000000000/\wI s j r E<=50000000000)&&eQ s g n (y-1) (j+1) (r+kK s j r E) (sQ s j r E))))
theorem F4:eQ 32 134 3 1 0 0 2=true:=by decide +kernel
theorem UM:eQ 9 42 4 2 0 0 2=true:=by decide +kernel
theorem v5{s g n y j r E:Nat}(h:eQ s g n y j r E=true):E<=3200000000/\r<=60000000/\j<=2:=by
 cases n with
 |zero=>exact ab8 h
 |succ n =>
  unfold eQ at h;simp only[aaw,ab7]at h;exact⟨h.1.1,h.1.2.1,h.1.2.2⟩
theorem Fn{s g n y j r E:Nat}(h:eQ s g n y j r E=true):E<=3200000000/\r<=400000000/\j<=2:=by
 have:=v5 h;omega
theorem UR{s g n y j r E:Nat}(h:eQ s g n y j r E=true):E<=50000000000/\r<=400000000/\j<=2:=by
 have:=Fn h;omega
theorem tx{s g n y j r E:Nat}(h:eQ s g (n+1) y j r E=true):(E<=20000000000/\r<=400000000/\j<=2)/\eQ s g n y j r (nE s g j r E)=true:=by
 unfold eQ at h;simp only[aaw,ab7]at h;exact⟨⟨by omega,by omega,by omega⟩,h.2.1⟩
theorem rm{s g n y j r E:Nat}(h:eQ s g (n+1) (y+1) j r E=true):(j<=1/\E<=3900000/\r<=64990/\r+kK s j r E<=5000000000/\wI s j r E<=50000000000)/\eQ s g n y (j+1) (r+kK s j r E) (sQ s j r E)=true:=by
 unfold eQ at h;simp only[aaw,abz,ab7,Yl]at h;rcases h.2.2 with h1 |h1
 ·omega
 ·exact h1
structure QInv(l:Li)(j r E:Nat)(a:Aq):Prop where
  tw:Tw a.ts r
  lv:a.ts.length<=j
  bs:∀p∈a.bs,Pq.ok a.ts.length E p
  ln:a.bs.length=l.bo.length
theorem Pq.ok.up{n n' e e':Nat}{p:Pq}(h:Pq.ok n e p)(hn:n<=n')(h5:n'<=5)(he:e<=e'):Pq.ok n' e' p :=
 ⟨⟨h5,h.c.nl.mono hn,h.c.cb.mono he⟩,⟨h5,h.s.nl.mono hn,h.s.cb.mono he⟩,⟨h5,h.x.nl.mono hn,h.x.cb.mono he⟩,⟨h5,h.y.nl.mono hn,h.y.cb.mono he⟩⟩
theorem Pq.ok.lv{n m e:Nat}{p:Pq}(h:Pq.ok n e p)(hn:n=m):Pq.ok m e p:=hn▸h
theorem tp{r r':Nat}(h:r<=r'):∀j,eB r j<=eB r' j
 |0=>aau _
 |j+1=>by have:=tp h j;simp only[eB];omega
theorem Ho{r r':Nat}(h:r<=r'):∀j e,iB r j e<=iB r' j e
 |0,e=>aau _
 |j+1,e=>by
  have h1:=tp h j;have h2:=tp h (j+1);have h3:=Ho h j (4*e+3*eB r j+r+1);have h4:=xV r' j (e:=4*e+3*eB r j+r+1) (f:=4*e+3*eB r' j+r'+1) oz;simp only[iB];omega
theorem vl:Pq.ok 0 2 a7:=by
 have h:Nm 0 2 []:=⟨by omega,.inl rfl,⟨1,0,⟨by decide,fun q h=>by cases h⟩,by decide,by decide⟩⟩
 exact⟨h,h,h,h⟩
theorem Pj:Pq.ok 0 2 lw:=by
 have h:Nm 0 2 [1]:=⟨by omega,.inr ⟨0,aau _,rfl⟩,Cb.mono (Cb.int (z:=1) (e:=1) (by decide)) oz⟩
 exact⟨h,vl.c,vl.c,vl.c⟩
theorem E8:Tw [] 0:=⟨by decide,(fun j h=>by cases h),(fun j h=>by cases h),⟨1,1,by decide,(fun d h=>by cases h),by decide,by decide⟩,by omega⟩
theorem Jd(l:Li):QInv l 0 0 2 (eW l):=by
 refine⟨E8,aau _,fun p hp=>?_,by simp[eW]⟩;rcases Zo hp with h |h
 ·rw[(Zg.1 h).2];exact vl
 ·rw[h];exact Pj
theorem Pq.ok.nr{n e:Nat}{p:Pq}(h:Pq.ok n e p)(he:e<=lm n):∀x∈p.pl.l,NR x e:=by
 intro x hx;simp only[Pl.l,Pq.pl,abd,abb,or_false]at hx;rcases hx with rfl |rfl |rfl |rfl
 ·exact h.c.rt he
 ·exact h.s.rt he
 ·exact h.x.rt he
 ·exact h.y.rt he
theorem Pq.ok.num{n e:Nat}{p:Pq}(h:Pq.ok n e p):∀x∈p.pl.l,co n x=0:=by
 intro x hx;simp only[Pl.l,Pq.pl,abd,abb,or_false]at hx;rcases hx with rfl |rfl |rfl |rfl
 ·exact pq h.c.nl
 ·exact pq h.s.nl
 ·exact pq h.x.nl
 ·exact pq h.y.nl
section
variable{l:Li}{j r E:Nat}{a:Aq}(Q:QInv l j r E a)
include Q
theorem QInv.chk:bM a.as.rs=0:=Q.tw.chk
theorem QInv.mem{p:Pl}(h:p∈a.as.bs):∃q∈a.bs,q.pl=p:=by have _:=Q;exact Y8.1 h
theorem QInv.nr(hE:E<=50000000000){p:Pl}(h:p∈a.as.bs):∀x∈p.l,NR x E:=by
 obtain⟨q,hq,rfl⟩:=Q.mem h;exact(Q.bs q hq).nr (abe hE (j5 _))
theorem QInv.ab(hl:aN l=0)(hE:E<=50000000000)(hr:r<=400000000):AB a.as:=by
 refine⟨Q.tw.tr.mono hr oz,fun p hp x hx=>(Q.nr hE hp x hx).mono hE,?_,?_⟩
 ·show(a.ts.map _).length<=8;rw[aar];have:=Q.tw.three;omega
 ·show(a.bs.map _).length<=30;rw[aar,Q.ln];have:=(dg hl).2.2.2.1;omega
theorem QInv.sma(hE:E<=50000000000){F:Nat}(hF:E<=F)(k:Int)(own:Bool):sa F l k a.as own :=
 fun b _ _ p hp x hx=>(Q.nr hE (aap hp) x hx).mono hF
theorem QInv.nd(hl:aN l=0){g:Gr}(hg:GrOk l g){own:Bool}:∀b∈cT l g own,gY a.as b=0:=by
 intro b hb;unfold gY;split
 ·rfl
 ·have h1:=vj hl hg b hb;obtain ⟨p,hp⟩:=ay (l:=a.bs) (i:=b.toNat) (by rw [Q.ln]; omega);have e:a.as.bs[b.toNat]? = some p.pl:=by show (a.bs.map Pq.pl)[b.toNat]? = _; rw [aav,hp]; rfl
  rw[aq e];unfold bB;rw[ab5 (by rw[Q.chk];simp)];have e2:a.as.rs.length=a.ts.length:=aar _;rw[e2];exact pK (fun x hx=>(Q.bs p (aap hp)).num x hx)
theorem QInv.dy0(hl:aN l=0)(hs:splitE l=0){k:Nat}{g:Gr}(hg:(splitG l)[k]?=some g)(own:Bool):fP l k a.as own=0:=by
 have hk:=(Y1.1 hg).1;obtain⟨_,ho⟩:=mC hl (aap hg);have hgA:iA l (k:Nat)=g:=aq hg;rw[rh hl,JO hs oz (by show(a.bs.map _).length=_;rw[aar,Q.ln]) Q.chk,hgA];exact pK (fun b hb=>Q.nd hl ho b (yQ.1 hb))
end
structure WkC(l:Li)(xs:List Tn)(s g:Nat):Prop where
  hl:l.ok
  li:aN l=0
  sp:splitE l=0
  cs:Cs s l
  ln:xs.length=l.dv.length
  ok:∀x∈xs,x.t.ok/\x.err=0/\Qb 1000 x.t.q/\Cb g [dW x.half x.t.q]/\Cb g [dR x.half x.t.q]
theorem Gl{l:Li}{g:Gr}(h:DyK l g)(hk:g.kind=0):0<=g.driver/\g.driver<l.dv.length:=by
 cases h with
 | @drv b z d _ _ t d0 hd hb=>have:=(Y1.1 hd).1;exact⟨d0,by show d<_;omega⟩
 |rrr=>exact acc hk (by simp)
 |pr=>exact acc hk (by simp)
 |rp=>exact acc hk (by simp)
theorem CK:d6.t.ok:=⟨(fun x h=>by cases h),(fun x h=>by cases h),aa0 _,aa0 _⟩
theorem KS:Qb 1000 d6.t.q:=by
 have e:d6.t.q=0:=by decide +kernel
 rw[e];exact Qb.zero.mono oz
section
variable{l:Li}{xs:List Tn}{s g:Nat}(W:WkC l xs s g){k:Nat}{gr:Gr}(hg:(splitG l)[k]?=some gr)
include W hg
theorem WkC.grp:DyK l gr/\GrOk l gr:=mC W.li (aap hg)
theorem WkC.tn:(cB gr xs).t.ok/\Qb 1000 (cB gr xs).t.q/\(gr.kind=0->∃x∈xs,cB gr xs=x):=by
 unfold cB
 by_cases hk:gr.kind=0
 ·rw[ab6 hk];have h:=Gl (W.grp hg).1 hk;obtain⟨x,hx⟩:=ay (l:=xs) (i:=gr.driver.toNat) (by rw[W.ln];omega);rw[aq hx];have hm:=aap hx;exact⟨(W.ok x hm).1,(W.ok x hm).2.2.1,fun _=>⟨x,hm,rfl⟩⟩
 ·rw[ab5 hk];exact⟨CK,KS,fun h=>acc h hk⟩
variable{j r E:Nat}{a:Aq}(Q:QInv l j r E a)
include Q
theorem QInv.dyOk{F:Nat}(hE:E<=50000000000)(hF:E<=F):DyOk F l k a.as false k gr:=by
 obtain⟨i,g',h⟩:=vF (Q.sma hE hF k false) (Q.dy0 W.li W.sp hg false);have e:i=k:=by have:=h.hk;omega
 subst e;have:=h.hg;rw[hg]at this;cases this;exact h
theorem QInv.dyS(hr:r<=64990)(hj:j<=1):DyS a.as:=by have _:=W;have _:=hg;exact⟨Q.tw.tr.mono hr oz,fun _=>by rw[a.llq];exact abe Q.lv hj⟩
theorem QInv.dyW(hE:E<=50000000000)(hr:r<=400000000):DyW l a.as:=by have _:=hg;exact⟨W.hl,W.li,Q.ab W.li hE hr,Q.chk⟩
theorem QInv.twl:Tw (Lw.llq a.as.rs) r:=by have _:=W;have _:=hg;rw[a.llq];exact Q.tw
theorem QInv.drv{n y:Nat}(ok:eQ s g (n+1) y j r E=true)(hk:gr.kind=0):∀sv∈eZ l a.as gr (cB gr xs),QInv l j r (nE s g j r E) (a.nxt gr sv):=by
 obtain⟨⟨hE,hr,hj⟩,_⟩:=tx ok;have D:=QInv.dyW W hg Q oz hr;have O:=QInv.dyOk W hg Q (F:=E) oz (aau _);obtain⟨i,z0,d,j0,e,hj0,p0⟩:=BF O hk;obtain⟨_,_,hx⟩:=W.tn hg;obtain⟨x,hx,ex⟩:=hx hk;obtain⟨_,he,_,hc,hs⟩:=W.ok x hx;have hlen:(Lw.llq a.as.rs).length=a.ts.length:=by rw[a.llq]
 have tw:=QInv.twl W hg Q;have hq0:=pN W.hl W.li W.cs hj0 p0.or;have hK:eB r (Lw.llq a.as.rs).length<=eB r j:=gX r (by rw[hlen];exact Q.lv);obtain⟨o1,o2⟩:=u4 W.hl W.li W.cs D.al D.hc tw hK hj0 p0;rw[ex];unfold eZ;rw[ab6 hk,e];show ∀sv∈kz l a.as i (l.jo.getD z0.toNat default) x,_;rw[aq hj0];unfold kz;rw[ab5 oz];have hp:=Xa (ts:=Lw.llq a.as.rs) (p:=ai l j0 i) (o:=aw l a.as j0 i) hc hs hq0 tw.five o1 o2
 have hp2:Pq.ok a.ts.length (nE s g j r E) (lK l a.as i j0 x):=by
  have:=BM (a:=0) (b:=0) hp (e:=nE s g j r E) (by unfold nE lX;omega) (by unfold nE lX;omega);exact Pq.ok.lv this hlen
 refine iP ⟨?_,?_,?_,?_⟩
 ·exact tw
 ·show(Lw.llq a.as.rs).length<=j;rw[hlen];exact Q.lv
 ·intro p hp3;show Pq.ok (Lw.llq a.as.rs).length _ p;rw[hlen];rcases DH hp3 with h |h
  ·exact(Q.bs p h).up (aau _) Q.tw.five (by unfold nE lX;omega)
  ·rw[Za.1 h];exact hp2
 ·exact(w9 _ _ _).trans Q.ln
theorem QInv.dy{n y:Nat}(ok:eQ s g (n+1) (y+1) j r E=true)(hk:gr.kind≠0):∀sv∈eZ l a.as gr (cB gr xs),QInv l (j+1) (r+kK s j r E) (sQ s j r E) (a.nxt gr sv):=by
 obtain⟨⟨hj,hE,hr,hX,hJ⟩,_⟩:=rm ok;have D:DyR l a.as:=⟨QInv.dyW W hg Q oz oz,QInv.dyS W hg Q hr hj⟩
 have O:=QInv.dyOk W hg Q (F:=E) oz (aau _);have hlen:(Lw.llq a.as.rs).length=a.ts.length:=by rw[a.llq]
 have hlv:(Lw.llq a.as.rs).length<=j:=by rw[hlen];exact Q.lv
 have tw:=QInv.twl W hg Q
 have Z:Szs (Lw.llq a.as.rs).length r (3*E+2*s+2*eB r j+10) (8*s+5) (kK s j r E) (eB r j) (eB (r+kK s j r E) (j+1)) (Ke s j r E) (wI s j r E):=by
  refine⟨by omega,gX r hlv,?_,hX,gX _ oz,?_,?_,hJ,?_,?_⟩
  ·unfold kK lX;omega
  ·exact Cj r _ hlv
  ·exact Cj _ _ hlv
  ·exact abe (gX r oz) (tp oz _)
  ·exact Ho oz _ _
 have hn:(Lw.llq a.as.rs).length<=1:=by omega
 have key:∀sv∈eZ l a.as gr (cB gr xs),Xz (Lw.llq a.as.rs) r (kK s j r E) sv.ts/\∀p∈sv.ps,Pq.ok sv.ts.length (sQ s j r E) p:=by
  unfold eZ;rw[ab5 hk]
  by_cases hk1:gr.kind=1
  ·obtain⟨i,k2,z0,z1,z2,j0,j1,j2,P⟩:=O.rrr hk1;obtain⟨e0,e1,e2,b0,b1,_⟩:=P.at;rw[ab6 hk1,e0,e1,e2,b0,b1];exact NL D hn W.cs tw Z (aau _) P
  ·rw[ab5 hk1]
   by_cases hk2:gr.kind=2
   ·obtain⟨i,z0,z1,j0,j,P,ha,hb⟩:=O.pr hk2;obtain⟨e0,e1,b0,_⟩:=P.at;rw[ab6 hk2,e0,e1,b0];exact Ub D hn W.cs tw Z (aau _) P ha hb
   ·obtain⟨i,z0,z1,j0,j,P,_,hj,hb⟩:=O.rp hk hk1 hk2;obtain⟨e0,e1,b0,hk3⟩:=P.at;rw[ab5 hk2,e0,e1,b0];exact Mn D hn W.cs tw Z (aau _) P hj hb
 intro sv hsv;obtain⟨hx,hp⟩:=key sv hsv;have h5:=hx.tw.five;have hup:=hx.up;have hln:=hx.ln;rw[hlen]at hup hln;refine⟨hx.tw,?_,?_,?_⟩
 ·show sv.ts.length<=j+1;have:=Q.lv;omega
 ·intro p hp3;rcases DH hp3 with h |h
  ·exact(Q.bs p h).up hup h5 (by unfold sQ oZ wZ lX;omega)
  ·exact hp p h
 ·exact(w9 _ _ _).trans Q.ln
end
def nN(l:Li)(a:As)(g:Gr)(x:Tn):Nat:=(jY l a g x).2
def fJ(F:Int->Bool)(sg:Bool)(f:Sv->List Aq×Nat):List Sv->List Aq×Nat
  |[]=>([],0)
  |s::r=>if F s.mode=false then fJ F sg f r else if(f s).2≠0 then f s else if sg=true then f s else((f s).1++(fJ F sg f r).1,(fJ F sg f r).2)
def f8(F:Nat->Int->Bool)(sg:Bool)(l:Li)(xs:List Tn)(gs:List Gr):Nat->Aq->List Aq×Nat
  |0,a=>([a],0)
  |n+1,a=>if nN l a.as (gs.getD a.ms.length default) (cB (gs.getD a.ms.length default) xs)≠0 then([],nN l a.as (gs.getD a.ms.length default) (cB (gs.getD a.ms.length default) xs))
    else fJ (F a.ms.length) sg (fun s=>f8 F sg l xs gs n (a.nxt (gs.getD a.ms.length default) s)) (eZ l a.as (gs.getD a.ms.length default) (cB (gs.getD a.ms.length default) xs))
theorem XE{l:Li}{xs:List Tn}{s g:Nat}(W:WkC l xs s g){k:Nat}{gr:Gr}(hg:(splitG l)[k]?=some gr){j r E:Nat}{a:Aq}(Q:QInv l j r E a){n y:Nat}(ok:eQ s g (n+1) y j r E=true)(hy:gr.kind≠0->0<y) :
  SolP (eZ l a.as gr (cB gr xs)) gr.kind a.ts.length gr.bo.length:=by
 obtain⟨⟨hE,hr,hj⟩,_⟩:=tx ok;have D:=QInv.dyW W hg Q oz hr;have h3:(Lw.llq a.as.rs).length<=2:=by rw[a.llq];have:=Q.lv;omega
 have hlen:(Lw.llq a.as.rs).length=a.ts.length:=by rw[a.llq]
 rw[<- hlen]
 by_cases hk:gr.kind=0
 ·exact Jm hE D h3 (QInv.dyOk W hg Q (F:=E) oz (aau _)) (fun h=>acc hk h) (W.tn hg).2.1
 ·have hy:=hy hk;obtain ⟨y',rfl⟩:∃ y',y = y' + 1:=⟨y - 1,by omega⟩
  obtain⟨⟨hj,hE,hr,hX,hJ⟩,_⟩:=rm ok;exact Jm oz D h3 (QInv.dyOk W hg Q (F:=3900000) oz hE) (fun _=>⟨rfl,QInv.dyS W hg Q hr hj⟩) (W.tn hg).2.1
open Lean.Grind (CommRing)
theorem p7{ts:LL}(hp:eU ts){X:Et ts}(h:0<ao X):eU (aU ts (sX X)):=by
 intro j hj;rw[dQ]at hj;rw[vS oz];rcases aay j ts.length with h9 |h9
 ·rw[yn h9];exact hp j h9
 ·have : j = ts.length := by omega
  subst this
  have e1:au (aU ts (sX X)) ts.length=X:=by
   show ae ts.length ((aU ts (sX X)).getD ts.length [])=_;rw[tm,nO];exact bh _ _
  rw[e1];exact Int.le_of_lt h
def br(T:LL)(p:Pq)(m:Rat×Rat):P2 T:=(dE T p.c*qE m.1-dE T p.s*qE m.2+dE T p.x,dE T p.s*qE m.1+dE T p.c*qE m.2+dE T p.y)
def CH(T:LL)(p:Pq):Prop:=ao (dE T p.c*dE T p.c+dE T p.s*dE T p.s-1)=0
def aB(l:Li)(T:LL)(bs:List Pq)(b pt:Int):P2 T:=br T (bs.getD b.toNat a7) (aM l b pt)
def JH(l:Li)(T:LL)(bs:List Pq)(j:Jt):Prop :=
  if j.kind=0 then ao ((aB l T bs j.a j.point).1-(aB l T bs j.b j.on).1)=0/\ao ((aB l T bs j.a j.point).2-(aB l T bs j.b j.on).2)=0
  else ao (gy (aQ (aB l T bs j.b j.to) (aB l T bs j.b j.on)) (aQ (aB l T bs j.a j.point) (aB l T bs j.b j.on)))=0
theorem EP{ts:LL}{q:Rat}(h:q≠0):(iE (qE q)*qE q:Et ts)=1:=by
 have e:(iE (qE q):Et ts)=qE (1/q):=wz (au ts) ts.length q;rw[e,<- iF,show 1/q*q=((1:Nat):Rat) by rw[show(((1:Nat):Rat))=1 from rfl];grind];rfl
section
variable{T:LL}{u p c:Rat×Rat}{w o:P2 T}
theorem vL:dE T (gL u w p o).c=dF u w:=bh _ _
theorem yo:dE T (gL u w p o).s=dt u w:=bh _ _
theorem Qa:dE T (gL u w p o).x=rK u w p o:=bh _ _
theorem XD:dE T (gL u w p o).y=qu u w p o:=bh _ _
theorem mS(m:Rat×Rat):br T (gL u w p o) m=(o.1+(dF u w*qE (m.1-p.1)-dt u w*qE (m.2-p.2)),o.2+(dt u w*qE (m.1-p.1)+dF u w*qE (m.2-p.2))):=by
 unfold br;rw[vL,yo,Qa,XD,kl,kl];unfold rK qu;refine Prod.ext ?_ ?_
 ·dsimp only;grind
 ·dsimp only;grind
theorem uA:br T (gL u w p o) p=o:=by
 rw[mS,show p.1-p.1=0 by grind,show p.2-p.2=0 by grind,Ba];refine Prod.ext ?_ ?_
 ·dsimp only;grind
 ·dsimp only;grind
theorem BP(h:b9 u u≠0):(dF u w*qE u.1-dt u w*qE u.2=w.1/\dt u w*qE u.1+dF u w*qE u.2=w.2):=by
 have hn:(ky u:Et T)=qE u.1*qE u.1+qE u.2*qE u.2:=by
  show qE (u.1*u.1+u.2*u.2)=_;rw[om,iF,iF]
 exact(KN hn (EP h) rfl rfl).1
theorem tZ(h:b9 (bX c p) (bX c p)≠0):br T (gL (bX c p) w p o) c=(o.1+w.1,o.2+w.2):=by
 rw[mS];have g:=BP (w:=w) h;have e1:(qE (c.1-p.1):Et T)=qE (bX c p).1:=rfl;have e2:(qE (c.2-p.2):Et T)=qE (bX c p).2:=rfl;rw[e1,e2,g.1,g.2]
theorem wa(hp:eU T)(h:b9 u u≠0)(hw:ao (w.1*w.1+w.2*w.2-qE (b9 u u))=0):CH T (gL u w p o):=by
 unfold CH;rw[vL,yo]
 have hn:(ky u:Et T)=qE u.1*qE u.1+qE u.2*qE u.2:=by
  show qE (u.1*u.1+u.2*u.2)=_;rw[om,iF,iF]
 have hi:(iE (ky u)*ky u:Et T)=1:=EP h;have e:=acd (af hp) hn;have ei:=acd (af hp) hi;have ew:af hp w.1*af hp w.1+af hp w.2*af hp w.2=af hp (ky u):=(jZ hp (x:=w.1*w.1+w.2*w.2) (y:=ky u)).2 hw;have g:=(KN (R:=Zq hp) (n:=af hp (ky u)) (i:=af hp (iE (ky u))) (u1:=af hp (qE u.1)) (u2:=af hp (qE u.2)) (c:=af hp (dF u w)) (s:=af hp (dt u w)) (w1:=af hp w.1) (w2:=af hp w.2) e ei rfl (by unfold dt;rw[bD,bI,bD,bD])).2 ew;refine(jZ hp (x:=dF u w*dF u w+dt u w*dt u w) (y:=1)).1 ?_;exact g
end
def aO(a:As):List Pq:=a.bs.map fun b=>⟨lq b.c,lq b.s,lq b.x,lq b.y⟩
theorem lr(q:Aq):aO q.as=q.bs:=by
 unfold aO Aq.as;rw[map_map]
 conv=>rhs;rw[<- List.map_id q.bs]
 refine YW fun p _=>?_
 show(⟨lq (p.c.map rt),lq (p.s.map rt),lq (p.x.map rt),lq (p.y.map rt)⟩:Pq)=p;rw[eL,eL,eL,eL]
theorem iV(l:Li)(a:As)(b pt:Int):aZ l a b pt=aB l (llq a.rs) (aO a) b pt:=by
 have e:(aO a).getD b.toNat a7=⟨lq (a.bs.getD b.toNat default).c,lq (a.bs.getD b.toNat default).s,lq (a.bs.getD b.toNat default).x,lq (a.bs.getD b.toNat default).y⟩:=by
  unfold aO;rw[aaq,aaq,aav];cases a.bs[b.toNat]? <;> rfl
 unfold aB;rw[e];rfl
def Nq(n:Nat)(p:Pq):Prop:=p.c.length<=2^n/\p.s.length<=2^n/\p.x.length<=2^n/\p.y.length<=2^n
section
variable{ts T:LL}(L:Lf ts T)
include L
theorem Lf.add(x y:Et ts):af L.pos (az T (x+y))=af L.pos (az T x)+af L.pos (az T y):=L.hm.add x y
theorem Lf.mul(x y:Et ts):af L.pos (az T (x*y))=af L.pos (az T x)*af L.pos (az T y):=L.hm.mul x y
theorem Lf.sub(x y:Et ts):af L.pos (az T (x-y))=af L.pos (az T x)-af L.pos (az T y):=L.hm.sub x y
theorem Lf.one:af L.pos (az T (1:Et ts))=1:=L.hm.one
theorem Lf.at{p:Pq}(hp:Nq ts.length p)(m:Rat×Rat):af L.pos (br T p m).1=af L.pos (az T (br ts p m).1)/\af L.pos (br T p m).2=af L.pos (az T (br ts p m).2):=by
 obtain⟨h1,h2,h3,h4⟩:=hp;unfold br;dsimp only;constructor
 ·rw[L.add,L.sub,L.mul,L.mul,L.low _ h1,L.low _ h2,L.low _ h3,L.q,L.q,fc,bI,bD,bD]
 ·rw[L.add,L.add,L.mul,L.mul,L.low _ h1,L.low _ h2,L.low _ h4,L.q,L.q,fc,fc,bD,bD]
theorem Lf.zero(x:Et ts):ao (az T x)=0↔ao x=0:=(fj L.pos).symm.trans (L.hm.zero x)
theorem Lf.ch{p:Pq}(hp:Nq ts.length p)(h:CH ts p):CH T p:=by
 obtain⟨h1,h2,h3,h4⟩:=hp;have e:=(L.zero _).2 h;have e1:=(fj L.pos).2 e;refine(fj L.pos).1 ?_;rw[L.sub,L.add,L.mul,L.mul,L.low _ h1,L.low _ h2,L.one]at e1;rw[bI,fc,bD,bD];exact e1
end
end Go.Lw
namespace Go.Lw
open Lean.Grind (CommRing)
def dc(bs bs':List Pq)(n:Nat)(b:Int):Prop:=bs'.getD b.toNat a7=bs.getD b.toNat a7/\Nq n (bs.getD b.toNat a7)
section
variable{ts T:LL}(L:Lf ts T)
include L
theorem Lf.pt(l:Li){bs bs':List Pq}{b:Int}(h:dc bs bs' ts.length b)(pt:Int) :
  af L.pos (aB l T bs' b pt).1=af L.pos (az T (aB l ts bs b pt).1)/\af L.pos (aB l T bs' b pt).2=af L.pos (az T (aB l ts bs b pt).2):=by
 unfold aB;rw[h.1];exact L.at h.2 _
end
section
variable{T:LL}(hp:eU T)
include hp
theorem wL{l:Li}{bs:List Pq}{j:Jt}(hk:j.kind=0)(h1:af hp (aB l T bs j.a j.point).1=af hp (aB l T bs j.b j.on).1)(h2:af hp (aB l T bs j.a j.point).2=af hp (aB l T bs j.b j.on).2):JH l T bs j:=by
 unfold JH;rw[ab6 hk];exact⟨(jZ hp).1 h1,(jZ hp).1 h2⟩
theorem yD{l:Li}{bs:List Pq}{j:Jt}(hk:j.kind≠0)
  (h:(af hp (aB l T bs j.b j.to).1-af hp (aB l T bs j.b j.on).1)*(af hp (aB l T bs j.a j.point).2-af hp (aB l T bs j.b j.on).2)-(af hp (aB l T bs j.b j.to).2-af hp (aB l T bs j.b j.on).2)*(af hp (aB l T bs j.a j.point).1-af hp (aB l T bs j.b j.on).1)=0):JH l T bs j:=by
 unfold JH;rw[ab5 hk];refine(fj hp).1 ?_;unfold gy crsE aQ;dsimp only;rw[bI,bD,bD,bI,bI,bI,bI];exact h
theorem D9{l:Li}{bs:List Pq}{j:Jt}(hk:j.kind=0)(h:JH l T bs j):af hp (aB l T bs j.a j.point).1=af hp (aB l T bs j.b j.on).1/\af hp (aB l T bs j.a j.point).2=af hp (aB l T bs j.b j.on).2:=by
 unfold JH at h;rw[ab6 hk]at h;exact⟨(jZ hp).2 h.1,(jZ hp).2 h.2⟩
theorem JD{l:Li}{bs:List Pq}{j:Jt}(hk:j.kind≠0)(h:JH l T bs j) :
  (af hp (aB l T bs j.b j.to).1-af hp (aB l T bs j.b j.on).1)*(af hp (aB l T bs j.a j.point).2-af hp (aB l T bs j.b j.on).2)-(af hp (aB l T bs j.b j.to).2-af hp (aB l T bs j.b j.on).2)*(af hp (aB l T bs j.a j.point).1-af hp (aB l T bs j.b j.on).1)=0:=by
 unfold JH at h;rw[ab5 hk]at h;have e:=(fj hp).2 h;unfold gy crsE aQ at e;dsimp only at e;rw[bI,bD,bD,bI,bI,bI,bI]at e;exact e
end
section
variable{ts T:LL}(L:Lf ts T)
include L
theorem Lf.jh{l:Li}{bs bs':List Pq}{j:Jt}(ha:dc bs bs' ts.length j.a)(hb:dc bs bs' ts.length j.b)(h:JH l ts bs j):JH l T bs' j:=by
 have a:=L.pt l ha;have b:=L.pt l hb
 by_cases hk:j.kind=0
 ·unfold JH at h;rw[ab6 hk]at h;have e1:=(fj L.pos).2 ((L.zero _).2 h.1);have e2:=(fj L.pos).2 ((L.zero _).2 h.2);rw[L.sub]at e1 e2;refine wL L.pos hk ?_ ?_
  ·rw[(a _).1,(b _).1];grind
  ·rw[(a _).2,(b _).2];grind
 ·unfold JH at h;rw[ab5 hk]at h;have e1:=(fj L.pos).2 ((L.zero _).2 h);unfold gy crsE aQ at e1;dsimp only at e1;simp only[L.sub,L.mul]at e1;refine yD L.pos hk ?_;rw[(a _).1,(a _).2,(b _).1,(b _).2,(b _).1,(b _).2];exact e1
end
section
variable{l:Li}{a:As}{T:LL}(L:Lf (llq a.rs) T)
include L
theorem Lf.pin{bs':List Pq}{j:Jt}{i:Int}(hk:j.kind=0)(tie:(j.a=i/\dc (aO a) bs' (llq a.rs).length j.b)\/(j.a≠i/\j.b=i/\dc (aO a) bs' (llq a.rs).length j.a))
  (h:br T (bs'.getD i.toNat a7) (ai l j i)=(az T (aw l a j i).1,az T (aw l a j i).2)):JH l T bs' j:=by
 have h1:=acd Prod.fst h;have h2:=acd Prod.snd h;dsimp only at h1 h2;rcases tie with⟨e,hs⟩ |⟨e,e2,hs⟩
 ·have b:=L.pt l hs j.on;unfold ai aw at h1 h2;simp only[ab6 e]at h1 h2;rw[iV]at h1 h2;refine wL L.pos hk ?_ ?_
  ·rw[b.1];unfold aB;rw[e];exact acd (af L.pos) h1
  ·rw[b.2];unfold aB;rw[e];exact acd (af L.pos) h2
 ·have b:=L.pt l hs j.point;unfold ai aw at h1 h2;simp only[ab5 e]at h1 h2;rw[iV]at h1 h2;refine wL L.pos hk ?_ ?_
  ·rw[b.1]
   conv=>rhs;unfold aB
   rw[e2];exact(acd (af L.pos) h1).symm
  ·rw[b.2]
   conv=>rhs;unfold aB
   rw[e2];exact(acd (af L.pos) h2).symm
end
theorem j9{bs:List Pq}{i k:Int}{p:Pq}(hi:0<=i)(hk:0<=k)(h:k≠i):(bs.set i.toNat p).getD k.toNat a7=bs.getD k.toNat a7:=by
 rw[aaq,aaq,List.getElem?_set_ne oz]
theorem mr{bs:List Pq}{i:Nat}{p:Pq}(h:i<bs.length):(bs.set i p).getD i a7=p:=by
 rw[aaq,List.getElem?_set_self h];rfl
theorem PT(n:Nat):Nq n a7:=⟨aa0 _,aa0 _,aa0 _,aa0 _⟩
theorem BG{bs:List Pq}{n:Nat}(h:∀p∈bs,Nq n p)(i:Nat):Nq n (bs.getD i a7):=by
 rw[aaq];cases e:bs[i]? with
 |none=>exact PT n
 |some p=>exact h p (aap e)
structure GrpH(l:Li)(a:As)(g:Gr)(s:Sv):Prop where
  lf:Lf (llq a.rs) s.ts
  js:∀z∈g.jo,JH l s.ts (a8 (aO a) g.bo s.ps) (l.jo.getD z.toNat default)
  cs:∀b∈g.bo,CH s.ts ((a8 (aO a) g.bo s.ps).getD b.toNat a7)
theorem Xt{R:Type}[CommRing R]{C S a1 a2 b1 b2 x1 x2 P1 P2 o1 o2:R}(hcs:C*C+S*S=1)(g:x1*(P2-o2)-x2*(P1-o1)=(a1-b1)*b2-(a2-b2)*b1)
  (y1:C*(a1-b1)-S*(a2-b2)=x1) (y2:S*(a1-b1)+C*(a2-b2)=x2) :
  (o1+(C*a1-S*a2)-(o1+(C*b1-S*b2)))*(P2-(o2+(S*b1+C*b2)))-(o2+(S*a1+C*a2)-(o2+(S*b1+C*b2)))*(P1-(o1+(C*b1-S*b2)))=0:=by
 have e1:o1+(C*a1-S*a2)-(o1+(C*b1-S*b2))=x1:=by rw[<- y1];grind
 have e2:o2+(S*a1+C*a2)-(o2+(S*b1+C*b2))=x2:=by rw[<- y2];grind
 rw[e1,e2];have e3:x1*(P2-(o2+(S*b1+C*b2)))-x2*(P1-(o1+(C*b1-S*b2)))=(x1*(P2-o2)-x2*(P1-o1))-(x1*(S*b1+C*b2)-x2*(C*b1-S*b2)):=by clear hcs g y1 y2 e1 e2;grind
 have e4:x1*(S*b1+C*b2)-x2*(C*b1-S*b2)=((a1-b1)*b2-(a2-b2)*b1)*(C*C+S*S):=by rw[<- y1,<- y2];clear hcs g y1 y2 e1 e2 e3;grind
 rw[e3,e4,g,hcs];grind
section
variable{l:Li}{a:As}{r:Nat}(tw:Tw (llq a.rs) r)(hN:∀p∈aO a,Nq (llq a.rs).length p)
include tw hN
theorem pu{bs':List Pq}{b:Int}(h:bs'.getD b.toNat a7=(aO a).getD b.toNat a7):dc (aO a) bs' (llq a.rs).length b:=by
 have:=tw;exact⟨h,BG hN _⟩
theorem Dj{u:Rat×Rat}(h:b9 u u≠0):0<ao (qE (b9 u u):Et (llq a.rs)):=by
 have:=tw;have:=hN;have h0:0<=b9 u u:=Rat.add_nonneg (ov u.1) (ov u.2)
 have h1:0<b9 u u:=by
  rcases Rat.le_iff_lt_or_eq.1 h0 with g |g
  ·exact g
  ·exact acc g.symm h
 rw[J0,wV h1];decide
theorem Tc{i k z0 z1 z2:Int}{j0 j1 j2:Jt}(ne:i≠k)(t0:TieO l 0 [i,k] z0 i j0)(t1:TieO l 0 [i,k] z1 k j1)(h2:l.jo[z2.toNat]?=some j2)(kd:j2.kind=0)
  (tie:(j2.a=i/\j2.b=k)\/(j2.b=i/\j2.a=k)) (hi:0<=i) (hk:0<=k) (hil:i.toNat<(aO a).length) (hkl:k.toNat<(aO a).length) (hn:∀j∈l.jo,0<=j.a/\0<=j.b)
  {s:Sv} (hs:s∈jw l a i k j0 j1 j2):GrpH l a ⟨1,[i,k],[z0,z1,z2],0⟩ s:=by
 unfold jw at hs;split at hs
 ·cases hs
 ·rename_i hz;obtain⟨w1,w2⟩:=uS (ZY.2 hz);split at hs
  ·cases hs
  ·rename_i hc;have hc:=aao.1 hc;have geo:=PP tw (fun X hX=>p7 tw.pos hX) hc (Dj tw hN w1);unfold jT at hs;obtain ⟨m,hm,rfl⟩:=Y8.1 hs;obtain ⟨x,hx⟩:=ay (Y3.1 hm);have G:=geo x (aap hx);unfold j8;rw [aq hx];have e0:TieO l 0 [i,k] z0 i j0:=t0;obtain ⟨n0,n1⟩:=hn j0 (aap t0.hj);obtain ⟨n2,n3⟩:=hn j1 (aap t1.hj);have hne:i.toNat ≠ k.toNat:=by omega
   generalize hM:er (aw l a j0 i) (aw l a j1 k) (qE (ba (ai l j2 i) (ai l j0 i))) (qE (ba (ai l j2 k) (ai l j1 k)))=M at *;obtain⟨B0,hB0⟩:∃B0,B0=lh M.ts x ⟨ai l j0 i,P2.l (aw l a j0 i),ai l j2 i⟩:=⟨_,rfl⟩
   obtain⟨B1,hB1⟩:∃B1,B1=lh M.ts x ⟨ai l j1 k,P2.l (aw l a j1 k),ai l j2 k⟩:=⟨_,rfl⟩
   have hbs:a8 (aO a) [i,k] [B0,B1]=((aO a).set i.toNat B0).set k.toNat B1:=rfl;have g0:(a8 (aO a) [i,k] [B0,B1]).getD i.toNat a7=B0:=by rw[hbs,j9 hk hi ne,mr hil]
   have g1:(a8 (aO a) [i,k] [B0,B1]).getD k.toNat a7=B1:=by rw[hbs,mr (by rw[ab4];exact hkl)]
   have gn:∀b:Int,0<=b->b∉[i,k]->dc (aO a) (a8 (aO a) [i,k] [B0,B1]) (llq a.rs).length b:=fun b h0 hb=>pu tw hN (by
    rw[hbs,j9 hk h0 (fun e=>hb (by simp[e])),j9 hi h0 (fun e=>hb (by simp[e]))])
   have p0:br M.ts B0 (ai l j0 i)=(az M.ts (aw l a j0 i).1,az M.ts (aw l a j0 i).2):=by rw[hB0];exact uA
   have p1:br M.ts B1 (ai l j1 k)=(az M.ts (aw l a j1 k).1,az M.ts (aw l a j1 k).2):=by rw[hB1];exact uA
   have q0:br M.ts B0 (ai l j2 i)=(dE M.ts x.1,dE M.ts x.2):=by
    rw[hB0];refine(tZ w1).trans ?_;unfold kI jE;refine Prod.ext ?_ ?_
    ·dsimp only;grind
    ·dsimp only;grind
   have q1:br M.ts B1 (ai l j2 k)=(dE M.ts x.1,dE M.ts x.2):=by
    rw[hB1];refine(tZ w2).trans ?_;unfold kI jE;refine Prod.ext ?_ ?_
    ·dsimp only;grind
    ·dsimp only;grind
   refine⟨G.lf,?_,?_⟩
   ·intro z hz;show JH l M.ts (a8 (aO a) [i,k] [_,_]) _;rw[<- hB0,<- hB1];rcases abd.1 hz with rfl |hz
    ·rw [aq t0.hj];refine G.lf.pin t0.kd (i:=i) ?_ (by rw [g0]; exact p0);rcases t0.tie with ⟨e,hb⟩ | ⟨e,hb⟩
     ·exact .inl ⟨e,gn _ n1 hb⟩
     ·exact .inr ⟨fun e2=>hb (by simp[e2]),e,gn _ n0 hb⟩
    ·rcases abd.1 hz with rfl |hz
     ·rw [aq t1.hj];refine G.lf.pin t1.kd (i:=k) ?_ (by rw [g1]; exact p1);rcases t1.tie with ⟨e,hb⟩ | ⟨e,hb⟩
      ·exact .inl ⟨e,gn _ n3 hb⟩
      ·exact .inr ⟨fun e2=>hb (by simp[e2]),e,gn _ n2 hb⟩
     ·rw[Za.1 hz,aq h2]
      have key:aB l M.ts (a8 (aO a) [i,k] [B0,B1]) j2.a j2.point=aB l M.ts (a8 (aO a) [i,k] [B0,B1]) j2.b j2.on:=by
       unfold aB;rcases tie with⟨e,e'⟩ |⟨e,e'⟩
       ·have c0 : ai l j2 i = aM l i j2.point := by unfold ai; rw [ab6 e]
        have c1:ai l j2 k=aM l k j2.on:=by unfold ai;rw[ab5 oz]
        rw[e,e',g0,g1,<- c0,<- c1,q0,q1]
       ·have c0 : ai l j2 k = aM l k j2.point := by unfold ai; rw [ab6 e']
        have c1:ai l j2 i=aM l i j2.on:=by unfold ai;rw[ab5 oz]
        rw[e,e',g0,g1,<- c0,<- c1,q0,q1]
      exact wL G.lf.pos kd (by rw[key]) (by rw[key])
   ·intro b hb;show CH M.ts ((a8 (aO a) [i,k] [_,_]).getD b.toNat a7);rw[<- hB0,<- hB1];rcases abd.1 hb with rfl |hb
    ·rw[g0,hB0];refine wa G.lf.pos w1 ?_;have:=G.c1;rw[G.lf.q]at this;exact this
    ·rw[Za.1 hb,g1,hB1];refine wa G.lf.pos w2 ?_;have:=G.c2;rw[G.lf.q]at this;exact this
theorem SF{i z0 z1:Int}{j0 j:Jt}(t0:TieO l 0 [i] z0 i j0)(t1:TieO l 1 [i] z1 i j)(ha:j.a=i)(hi:0<=i)(hil:i.toNat<(aO a).length)(hn:∀j∈l.jo,0<=j.a/\0<=j.b)
  {s:Sv} (hs:s∈jP l a i j0 j):GrpH l a ⟨2,[i],[z0,z1],0⟩ s:=by
 unfold jP at hs;split at hs
 ·cases hs
 ·rename_i hz;have w1:=uK (ZY.2 hz);split at hs
  ·cases hs
  ·rename_i hc;have hc:=aao.1 hc;have geo:=PL tw (fun X hX=>p7 tw.pos hX) (c:=aw l a j0 i) (z:=qE (ba (aM l i j.point) (ai l j0 i))) hc;unfold jT at hs;obtain⟨m,hm,rfl⟩:=Y8.1 hs;obtain⟨x,hx⟩:=ay (Y3.1 hm);have G:=geo x (aap hx);have L:=G.lf;unfold j8;rw[aq hx];obtain⟨n0,n1⟩:=hn j0 (aap t0.hj);obtain⟨n2,n3⟩:=hn j (aap t1.hj);generalize hM:d8 (aZ l a j.b j.on) (aZ l a j.b j.to) (aw l a j0 i) (qE (ba (aM l i j.point) (ai l j0 i)))=M at *;obtain⟨B0,hB0⟩:∃B0,B0=lh M.ts x ⟨ai l j0 i,P2.l (aw l a j0 i),aM l i j.point⟩:=⟨_,rfl⟩
   have hbs:a8 (aO a) [i] [B0]=(aO a).set i.toNat B0:=rfl;have g0:(a8 (aO a) [i] [B0]).getD i.toNat a7=B0:=by rw[hbs,mr hil]
   have gn:∀b:Int,0<=b->b∉[i]->dc (aO a) (a8 (aO a) [i] [B0]) (llq a.rs).length b:=fun b h0 hb=>pu tw hN (by
    rw[hbs,j9 hi h0 (fun e=>hb (by simp[e]))])
   have p0:br M.ts B0 (ai l j0 i)=(az M.ts (aw l a j0 i).1,az M.ts (aw l a j0 i).2):=by rw[hB0];exact uA
   have q0:br M.ts B0 (aM l i j.point)=(dE M.ts x.1,dE M.ts x.2):=by
    rw[hB0];refine(tZ w1).trans ?_;unfold kI jE;refine Prod.ext ?_ ?_
    ·dsimp only;grind
    ·dsimp only;grind
   have hjb:dc (aO a) (a8 (aO a) [i] [B0]) (llq a.rs).length j.b:=by
    rcases t1.tie with⟨e,hb⟩ |⟨e,hb⟩
    ·exact gn _ n3 hb
    ·exact acc (by simp[ha]) hb
   refine⟨G.lf,?_,?_⟩
   ·intro z hz;show JH l M.ts (a8 (aO a) [i] [_]) _;rw[<- hB0];rcases abd.1 hz with rfl |hz
    ·rw [aq t0.hj];refine L.pin t0.kd (i:=i) ?_ (by rw [g0]; exact p0);rcases t0.tie with ⟨e,hb⟩ | ⟨e,hb⟩
     ·exact .inl ⟨e,gn _ n1 hb⟩
     ·exact .inr ⟨fun e2=>hb (by simp[e2]),e,gn _ n0 hb⟩
    ·rw [Za.1 hz, aq t1.hj];refine yD L.pos (by rw [t1.kd]; decide) ?_;have ec:=(fj L.pos).2 G.l;rw [bI,bD,bD,bI,bI,bI,bI,iV,iV] at ec;have on:=L.pt l hjb j.on;have to:=L.pt l hjb j.to
     have pp:aB l M.ts (a8 (aO a) [i] [B0]) j.a j.point=(dE M.ts x.1,dE M.ts x.2):=by
      unfold aB;rw[ha,g0,q0]
     rw[pp,on.1,on.2,to.1,to.2];exact ec
   ·intro b hb;show CH M.ts ((a8 (aO a) [i] [_]).getD b.toNat a7);rw[<- hB0,Za.1 hb,g0,hB0];refine wa L.pos w1 ?_;have:=G.c;rw[L.q]at this;exact this
theorem yq{i z0 z1:Int}{j0 j:Jt}(t0:TieO l 0 [i] z0 i j0)(t1:TieO l 1 [i] z1 i j)(ha:j.a≠i)(hi:0<=i)(hil:i.toNat<(aO a).length)(hn:∀j∈l.jo,0<=j.a/\0<=j.b)(hv:b9 (cw l i j) (cw l i j)≠0)
  (hd:ao (bY l a i j0 j)≠0) {T:LL} (L:Lf (llq a.rs) T) {q:List Rat} (hq:af L.pos (dE T q*dE T q)=af L.pos (az T (bw l a i j0 j))) {n:Int} :
  GrpH l a ⟨3,[i],[z0,z1],0⟩ ⟨T,[nF T (dz l a i j0 j) q],n⟩:=by
 obtain⟨n0,n1⟩:=hn j0 (aap t0.hj);obtain⟨n2,n3⟩:=hn j (aap t1.hj)
 obtain⟨tb,tn⟩:j.b=i/\j.a∉[i]:=by
  rcases t1.tie with⟨e,hb⟩ |h
  ·exact acc e ha
  ·exact h
 obtain⟨w,hw⟩:∃w:P2 T,w=n8 T q (dz l a i j0 j).h (dz l a i j0 j).d (dz l a i j0 j).w:=⟨_,rfl⟩
 obtain⟨o,ho⟩:∃o:P2 T,o=(az T (aw l a j0 i).1,az T (aw l a j0 i).2):=⟨_,rfl⟩
 obtain⟨B0,hB0⟩:∃B0,B0=gL (cw l i j) w (ai l j0 i) o:=⟨_,rfl⟩
 have e0:nF T (dz l a i j0 j) q=B0:=by rw[hB0,hw,ho];rfl
 rw[e0];have hbs:a8 (aO a) [i] [B0]=(aO a).set i.toNat B0:=rfl;have g0:(a8 (aO a) [i] [B0]).getD i.toNat a7=B0:=by rw[hbs,mr hil]
 have gn:∀b:Int,0<=b->b∉[i]->dc (aO a) (a8 (aO a) [i] [B0]) (llq a.rs).length b:=fun b h0 hb=>pu tw hN (by
  rw[hbs,j9 hi h0 (fun e=>hb (by simp[e]))])
 have hD:af L.pos (az T (bY l a i j0 j))=af L.pos (az T (bT l a i j0 j).1)*af L.pos (az T (bT l a i j0 j).1)+af L.pos (az T (bT l a i j0 j).2)*af L.pos (az T (bT l a i j0 j).2):=by
  rw[<- L.mul,<- L.mul,<- L.add];rfl
 have hI:af L.pos (iE (az T (bY l a i j0 j)))*af L.pos (az T (bY l a i j0 j))=1:=vu L.pos (fun e=>hd ((L.zero _).1 e))
 have hX:af L.pos (dE T q)*af L.pos (dE T q)=af L.pos (qE (ft l i j))*af L.pos (az T (bY l a i j0 j))-af L.pos (qE (bP l i j0 j))*af L.pos (qE (bP l i j0 j)):=by
  rw[<- bD,hq];unfold bw;rw[L.sub,L.mul,L.mul,L.q,L.q]
 have eh:dE T (dz l a i j0 j).h=qE (bP l i j0 j):=fL _ _;have x1:w.1=(dE T q*az T (bT l a i j0 j).1-qE (bP l i j0 j)*-az T (bT l a i j0 j).2)*iE (az T (bY l a i j0 j)):=by rw[hw,<- eh];rfl
 have x2:w.2=(dE T q*az T (bT l a i j0 j).2-qE (bP l i j0 j)*az T (bT l a i j0 j).1)*iE (az T (bY l a i j0 j)):=by rw[hw,<- eh];rfl
 have G:=Xy hD hI hX (w1:=af L.pos w.1) (w2:=af L.pos w.2) (by rw[x1,bD,bI,bD,bD,GD]) (by rw[x2,bD,bI,bD,bD])
 have hc:CH T B0:=by
  rw[hB0];refine wa L.pos hv ?_;refine(jZ L.pos (x:=w.1*w.1+w.2*w.2) (y:=qE (b9 (cw l i j) (cw l i j)))).1 ?_;rw[fc,bD,bD,G.1];rfl
 refine⟨L,?_,?_⟩
 ·intro z hz;show JH l T (a8 (aO a) [i] [B0]) _;rcases abd.1 hz with rfl |hz
  ·rw [aq t0.hj];refine L.pin t0.kd (i:=i) ?_ (by rw [g0,hB0,uA,ho]);rcases t0.tie with ⟨e,hb⟩ | ⟨e,hb⟩
   ·exact .inl ⟨e,gn _ n1 hb⟩
   ·exact .inr ⟨fun e2=>hb (by simp[e2]),e,gn _ n0 hb⟩
  ·rw [Za.1 hz, aq t1.hj];refine yD L.pos (by rw [t1.kd]; decide) ?_;have pp:=L.pt l (gn _ n2 tn) j.point;have eon:aB l T (a8 (aO a) [i] [B0]) j.b j.on = br T B0 (aM l i j.on):=by unfold aB; rw [tb,g0]
   have eto:aB l T (a8 (aO a) [i] [B0]) j.b j.to=br T B0 (aM l i j.to):=by unfold aB;rw[tb,g0]
   have W1:af L.pos (az T (bT l a i j0 j).1)=af L.pos (az T (aB l (llq a.rs) (aO a) j.a j.point).1)-af L.pos o.1:=by
    rw[ho,<- L.sub,<- iV];rfl
   have W2:af L.pos (az T (bT l a i j0 j).2)=af L.pos (az T (aB l (llq a.rs) (aO a) j.a j.point).2)-af L.pos o.2:=by
    rw[ho,<- L.sub,<- iV];rfl
   have g2:=G.2;rw[W1,W2]at g2;rw[pp.1,pp.2,eon,eto,hB0,mS,mS];have gg:=BP (w:=w) hv
   have hcs:af L.pos (dF (cw l i j) w)*af L.pos (dF (cw l i j) w)+af L.pos (dt (cw l i j) w)*af L.pos (dt (cw l i j) w)=1:=by
    have h9:=(fj L.pos).2 hc;rw[hB0,vL,yo,bI,fc,bD,bD,Iq]at h9;grind
   have v1:(qE (cw l i j).1:Et T)=qE ((aM l i j.to).1-(ai l j0 i).1)-qE ((aM l i j.on).1-(ai l j0 i).1):=by rw[<- kl];congr 1;show(aM l i j.to).1-(aM l i j.on).1=_;grind
   have v2:(qE (cw l i j).2:Et T)=qE ((aM l i j.to).2-(ai l j0 i).2)-qE ((aM l i j.on).2-(ai l j0 i).2):=by rw[<- kl];congr 1;show(aM l i j.to).2-(aM l i j.on).2=_;grind
   have hh:(qE (bP l i j0 j):Et T)=qE (cw l i j).1*qE ((aM l i j.on).2-(ai l j0 i).2)-qE (cw l i j).2*qE ((aM l i j.on).1-(ai l j0 i).1):=by
    rw[<- iF,<- iF,<- kl];rfl
   have y1:=acd (af L.pos) gg.1;have y2:=acd (af L.pos) gg.2;rw[hh,bI,bD,bD]at g2;rw[v1,v2]at g2 y1 y2;simp only[fc,bI,bD]at g2 y1 y2 ⊢
   revert hcs g2 y1 y2
   generalize af L.pos (qE ((aM l i j.to).1-(ai l j0 i).1):Et T)=a1;generalize af L.pos (qE ((aM l i j.to).2-(ai l j0 i).2):Et T)=a2;generalize af L.pos (qE ((aM l i j.on).1-(ai l j0 i).1):Et T)=b1;generalize af L.pos (qE ((aM l i j.on).2-(ai l j0 i).2):Et T)=b2;generalize af L.pos (dF (cw l i j) w)=C;generalize af L.pos (dt (cw l i j) w)=S;generalize af L.pos (az T (aB l (llq a.rs) (aO a) j.a j.point).1)=P1;generalize af L.pos (az T (aB l (llq a.rs) (aO a) j.a j.point).2)=P2;generalize af L.pos o.1=o1;generalize af L.pos o.2=o2;generalize af L.pos w.1=x1;generalize af L.pos w.2=x2;intro hcs g2 y1 y2;exact Xt hcs g2 y1 y2
 ·intro b hb;rw[Za.1 hb];show CH T ((a8 (aO a) [i] [B0]).getD i.toNat a7);rw[g0];exact hc
end
end Go.Lw
namespace Go.Lw
open Lean.Grind (CommRing)
theorem LX(half:Bool)(t:Rat):dW half t*dW half t+dR half t*dR half t=1:=by
 unfold dW dR;cases half
 ·have h:1+t*t≠0:=by
   have:=ov t;intro e;grind
  simp only[ZX,if_false]
  have e1:(1-t*t)/(1+t*t)*((1-t*t)/(1+t*t))+(t+t)/(1+t*t)*((t+t)/(1+t*t))=((1-t*t)*(1-t*t)+(t+t)*(t+t))*((1+t*t)⁻¹*(1+t*t)⁻¹):=by
   rw[Rat.div_def,Rat.div_def];grind
  rw[e1];have e2:(1+t*t)*(1+t*t)⁻¹=1:=Rat.mul_inv_cancel _ h;generalize(1+t*t)⁻¹=k at e2 ⊢;have e3:((1-t*t)*(1-t*t)+(t+t)*(t+t))*(k*k)=((1+t*t)*k)*((1+t*t)*k):=by grind
  rw[e3,e2,Rat.one_mul]
 ·simp only[if_true];decide +kernel
section
variable{l:Li}{a:As}{r:Nat}(tw:Tw (llq a.rs) r)(hN:∀p∈aO a,Nq (llq a.rs).length p)
include tw hN
theorem QT{i z0 z1:Int}{j0 j:Jt}(t0:TieO l 0 [i] z0 i j0)(t1:TieO l 1 [i] z1 i j)(ha:j.a≠i)(hi:0<=i)(hil:i.toNat<(aO a).length)(hn:∀j∈l.jo,0<=j.a/\0<=j.b)(hv:b9 (cw l i j) (cw l i j)≠0)
  {s:Sv} (hs:s∈jR l a i j0 j):GrpH l a ⟨3,[i],[z0,z1],0⟩ s:=by
 unfold jR at hs;split at hs
 ·cases hs
 ·rename_i h1;split at hs
  ·cases hs
  ·rename_i h2;have hd:=uJ tw h2 h1;split at hs
   ·rename_i h3;have hp:=p7 tw.pos h3;have L:=pS (bw l a i j0 j) hp;have e:=Bk (bw l a i j0 j);unfold jF at hs;obtain⟨m,hm,rfl⟩:=Y8.1 hs;have hm:=Y3.1 hm;unfold iY
    match m,hm with
    |0,_ =>
     refine yq tw hN t0 t1 ha hi hil hn hv hd L ?_;show af L.pos (bE (bw l a i j0 j)*bE (bw l a i j0 j))=_;rw[e];rfl
    |1,_ =>
     refine yq tw hN t0 t1 ha hi hil hn hv hd L ?_;show af L.pos (dE _ (sX (-bE (bw l a i j0 j)))*dE _ (sX (-bE (bw l a i j0 j))))=_;rw[eJ,show -bE (bw l a i j0 j)*-bE (bw l a i j0 j)=bE (bw l a i j0 j)*bE (bw l a i j0 j) by grind,e];rfl
    |m+2,h=>exact acc h (by simp)
   ·rename_i h3;have hX:ao (bw l a i j0 j) = 0:=by omega
    have L:=m8 (ts:=llq a.rs) tw.pos;unfold jF at hs;obtain⟨m,hm,rfl⟩:=Y8.1 hs;have hm:=Y3.1 hm;unfold iY
    match m,hm with
    |0,_ =>
     refine yq tw hN t0 t1 ha hi hil hn hv hd L ?_;show af L.pos (dE _ []*dE _ [])=_;have e0:(dE (llq a.rs) []:Et (llq a.rs))=0:=by rw[E.zero_def];exact gp _
     rw[e0,dp];refine((fj L.pos).2 ?_).trans ((fj L.pos).2 hX).symm;rw[show(0:Et (llq a.rs))*0=0 by grind];exact(eF _ _ L.pos).zero
    |m+1,h=>exact acc h (by simp)
theorem O2{i z0 d:Int}{j0:Jt}(t0:TieO l 0 [i] z0 i j0)(hi:0<=i)(hil:i.toNat<(aO a).length)(hn:∀j∈l.jo,0<=j.a/\0<=j.b){x:Tn}
  {s:Sv} (hs:s∈kz l a i j0 x):GrpH l a ⟨0,[i],[z0],d⟩ s/\dE s.ts ((a8 (aO a) [i] s.ps).getD i.toNat a7).c=qE (dW x.half x.t.q)/\dE s.ts ((a8 (aO a) [i] s.ps).getD i.toNat a7).s=qE (dR x.half x.t.q):=by
 unfold kz at hs;split at hs
 ·cases hs
 ·rw[Za.1 hs];obtain⟨n0,n1⟩:=hn j0 (aap t0.hj);have L:=m8 (ts:=llq a.rs) tw.pos;have hbs:∀B0,a8 (aO a) [i] [B0]=(aO a).set i.toNat B0:=fun _=>rfl
  have g0:∀B0,(a8 (aO a) [i] [B0]).getD i.toNat a7=B0:=fun B0=>by rw[hbs,mr hil]
  have gn:∀(B0:Pq)(b:Int),0<=b->b∉[i]->dc (aO a) (a8 (aO a) [i] [B0]) (llq a.rs).length b:=fun B0 b h0 hb=>pu tw hN (by
   rw[hbs,j9 hi h0 (fun e=>hb (by simp[e]))])
  have eN:(ky (((1:Int):Rat),0):Et (llq a.rs))=qE 1:=acd qE (show((1:Int):Rat)*((1:Int):Rat)+0*0=1 by decide +kernel);have q1:(qE 1:Et (llq a.rs))=1:=rfl
  have hc:(dE (llq a.rs) (lK l a i j0 x).c:Et (llq a.rs))=qE (dW x.half x.t.q):=by
   unfold lK;rw[vL];unfold dF;rw[eN,Bm,lJ,Ba];grind
  have hsn:(dE (llq a.rs) (lK l a i j0 x).s:Et (llq a.rs))=qE (dR x.half x.t.q):=by
   unfold lK;rw[yo];unfold dt;rw[eN,Bm,lJ,Ba];grind
  refine⟨⟨L,?_,?_⟩,by rw[g0];exact hc,by rw[g0];exact hsn⟩
  ·intro z hz;rw [Za.1 hz,aq t0.hj];show JH l (llq a.rs) (a8 (aO a) [i] [lK l a i j0 x]) j0;refine L.pin t0.kd (i:=i) ?_ (by rw [g0,dp,dp]; exact uA);rcases t0.tie with ⟨e,hb⟩ | ⟨e,hb⟩
   ·exact .inl ⟨e,gn _ _ n1 hb⟩
   ·exact .inr ⟨fun e2=>hb (by simp[e2]),e,gn _ _ n0 hb⟩
  ·intro b hb;rw[Za.1 hb];show CH (llq a.rs) ((a8 (aO a) [i] [lK l a i j0 x]).getD i.toNat a7);rw[g0];unfold CH;rw[hc,hsn,<- iF,<- iF,<- om,LX,q1,show(1:Et (llq a.rs))-1=0 by grind];exact(eF _ _ L.pos).zero
theorem P3{g:Gr}(hg:DyK l g)(hgb:∀b∈g.bo,0<=b/\b.toNat<(aO a).length)(hli:aN l=0){x:Tn}{s:Sv}(hs:s∈eZ l a g x):GrpH l a g s/\(g.kind=0->dE s.ts ((a8 (aO a) g.bo s.ps).getD (aL g 0).toNat a7).c=qE (dW x.half x.t.q)/\dE s.ts ((a8 (aO a) g.bo s.ps).getD (aL g 0).toNat a7).s=qE (dR x.half x.t.q)):=by
 have hn:∀j∈l.jo,0<=j.a/\0<=j.b:=fun j hj=>by
  obtain⟨n,hn⟩:=aby hj;obtain⟨i1,i2,_⟩:=cF hli hn;have i1:=df i1;have i2:=df i2;omega
 cases hg with
 | @drv b z d j dr t d0 hd hb =>
  have e:am l ⟨0,[b],[z],d⟩ 0=j:=aq t.hj;have hs:s∈kz l a b j x:=by rw[<- e];exact hs
  obtain⟨h1,h2⟩:=hgb b (by simp);have h:=O2 (d:=d) tw hN t h1 h2 hn hs;exact⟨h.1,fun _=>h.2⟩
 | @rrr i k z0 z1 z2 j0 j1 j2 ne t0 t1 h0 h2 kd tie =>
  have e0:am l ⟨1,[i,k],[z0,z1,z2],0⟩ 0=j0:=aq t0.hj;have e1:am l ⟨1,[i,k],[z0,z1,z2],0⟩ 1=j1:=aq t1.hj;have e2:am l ⟨1,[i,k],[z0,z1,z2],0⟩ 2=j2:=aq h2;have hs:s∈jw l a i k j0 j1 j2:=by rw[<- e0,<- e1,<- e2];exact hs
  obtain⟨b1,b2⟩:=hgb i (by simp);obtain⟨b3,b4⟩:=hgb k (by simp);exact⟨Tc tw hN ne t0 t1 h2 kd tie b1 b3 b2 b4 hn hs,fun h=>acc h (by simp)⟩
 | @pr i z0 z1 j0 j1 t0 t1 ha =>
  have e0:am l ⟨2,[i],[z0,z1],0⟩ 0=j0:=aq t0.hj;have e1:am l ⟨2,[i],[z0,z1],0⟩ 1=j1:=aq t1.hj;have hs:s∈jP l a i j0 j1:=by rw[<- e0,<- e1];exact hs
  obtain⟨b1,b2⟩:=hgb i (by simp);exact⟨SF tw hN t0 t1 ha b1 b2 hn hs,fun h=>acc h (by simp)⟩
 | @rp i z0 z1 j0 j1 t0 t1 ha =>
  have e0:am l ⟨3,[i],[z0,z1],0⟩ 0=j0:=aq t0.hj;have e1:am l ⟨3,[i],[z0,z1],0⟩ 1=j1:=aq t1.hj;have hs:s∈jR l a i j0 j1:=by rw[<- e0,<- e1];exact hs
  obtain⟨b1,b2⟩:=hgb i (by simp)
  have tb:j1.b=i:=by
   rcases t1.tie with⟨e,_⟩ |⟨e,_⟩
   ·exact acc e ha
   ·exact e
  exact⟨QT tw hN t0 t1 ha b1 b2 hn (wA hli t1.hj (by rw[t1.kd];decide) tb) hs,fun h=>acc h (by simp)⟩
end
end Go.Lw
namespace Go.Lw
open Lean.Grind (CommRing)
theorem R8{n N:Nat}(hN:N=n+1){r:(k:Nat)->T k}(h:T.sgn r n (r n)=1):T.sgn r N (ae N (cC n))=1:=by
 subst hN;rw[Ec];show T.sgn3 (T.sgn r n (T.zero n)) (T.sgn r n (T.ofQ n 1)) (T.sgn r n (r n)) _=1;rw[h,T.sgn_zero,T.sgn_ofQ];have e:bV 1=1:=by decide +kernel
 rw[e];rfl
theorem AW{ts:LL}{X:Et ts}(h:ao X=1):ao (bE X)=1:=by
 refine R8 (dQ _ _) ?_;rw[vS (aau _)]
 have e1:au (aU ts (sX X)) ts.length=X:=by
  show ae ts.length ((aU ts (sX X)).getD ts.length [])=X;rw[tm,nO];exact bh _ _
 rw[e1];exact h
theorem Ep{ts:LL}(hp:eU ts){X:Et ts}(h:0<ao X):ao X=1:=by
 rcases(eF _ _ hp).cs X with g |g |g
 ·have g:ao X=-1:=g;omega
 ·have g:ao X=0:=g;omega
 ·exact g
theorem um{ts:LL}(hp:eU ts){x y:Et ts}(h:af hp x=af hp y):ao x=ao y:=(eF _ _ hp).sub0 ((jZ hp).1 h)
theorem Bj{ts:LL}(hp:eU ts)(x:Et ts):ao (-x)=-ao x:=(eF _ _ hp).neg x
theorem I1{ts:LL}(hp:eU ts)(x:Et ts):ao (x+x)=ao x:=by
 have H:=eF (au ts) ts.length hp;show sg _ _ (x+x)=sg _ _ x;rcases H.cs x with h |h |h
 ·have n:=H.neg x;have a:=H.padd (x:=-x) (y:=-x) oz oz;have e:=H.neg (x+x);rw[show -(x+x)=-x+-x by grind,a]at e;omega
 ·rw[H.zadd h]
 ·rw[H.padd h oz];exact h.symm
section
variable{R:Type}[CommRing R]
theorem L1{p1 p2 q1 q2 i t a x y:R}(hi:i*(((p1-q1)*(p1-q1)+(p2-q2)*(p2-q2))+((p1-q1)*(p1-q1)+(p2-q2)*(p2-q2)))=1)
  (hx:x=p1+a*i*(q1-p1)+t*(i*-(q2-p2))) (hy:y=p2+a*i*(q2-p2)+t*(i*(q1-p1))) :
  ((q1-p1)*(y-p2)-(q2-p2)*(x-p1))+((q1-p1)*(y-p2)-(q2-p2)*(x-p1))=t:=by
 have e:((q1-p1)*(y-p2)-(q2-p2)*(x-p1))+((q1-p1)*(y-p2)-(q2-p2)*(x-p1))=t*(i*(((p1-q1)*(p1-q1)+(p2-q2)*(p2-q2))+((p1-q1)*(p1-q1)+(p2-q2)*(p2-q2)))):=by
  rw[hx,hy];clear hi hx hy;grind
 rw[e,hi];grind
theorem PS{p1 p2 q1 q2 c1 c2 i t k x y:R}(hi:i*((q1-p1)*(q1-p1)+(q2-p2)*(q2-p2))=1)(hk:k=((q1-p1)*(c1-p1)+(q2-p2)*(c2-p2)+t)*i)
  (hx:x=p1+k*(q1-p1)) (hy:y=p2+k*(q2-p2)):(q1-p1)*(x-c1)+(q2-p2)*(y-c2)=t:=by
 have e:(q1-p1)*(x-c1)+(q2-p2)*(y-c2)=k*((q1-p1)*(q1-p1)+(q2-p2)*(q2-p2))-((q1-p1)*(c1-p1)+(q2-p2)*(c2-p2)):=by
  rw[hx,hy];clear hi hk hx hy;grind
 have e2:k*((q1-p1)*(q1-p1)+(q2-p2)*(q2-p2))=((q1-p1)*(c1-p1)+(q2-p2)*(c2-p2)+t)*(i*((q1-p1)*(q1-p1)+(q2-p2)*(q2-p2))):=by
  rw[hk];clear hi hk hx hy e;grind
 rw[e,e2,hi];grind
theorem LV{W1 W2 hh i t D w1 w2:R}(hD:D=W1*W1+W2*W2)(hi:i*D=1)(h1:w1=(t*W1-hh*-W2)*i)(h2:w2=(t*W2-hh*W1)*i):w1*W1+w2*W2=t:=by
 have e:w1*W1+w2*W2=t*(i*D):=by rw[h1,h2,hD];clear hD hi h1 h2;grind
 rw[e,hi];grind
theorem WJ{ts:LL}{f:Et ts->R}(h:Hm f){p q:P2 ts}{z z2:Et ts}(hd2:ao (aA p q+aA p q)≠0){t x y:R}
  (hx:x=f (dj p q z z2).1+t*f (gM p q).1) (hy:y=f (dj p q z z2).2+t*f (gM p q).2) :
  ((f q.1-f p.1)*(y-f p.2)-(f q.2-f p.2)*(x-f p.1))+((f q.1-f p.1)*(y-f p.2)-(f q.2-f p.2)*(x-f p.1))=t:=by
 have d:=yS h p q;have hi:=h.inv _ hd2;rw[h.add,d]at hi;refine L1 hi (a:=f z+((f p.1-f q.1)*(f p.1-f q.1)+(f p.2-f q.2)*(f p.2-f q.2))-f z2) ?_ ?_
 ·rw[hx,wC];unfold cZ gM;dsimp only;show f (p.1+qE ((1:Int):Rat)*iE (aA p q+aA p q)*(z+aA p q-z2)*(q.1-p.1))+t*f (qE ((1:Int):Rat)*iE (aA p q+aA p q)*(0-(q.2-p.2)))=_;simp only[h.add,h.mul,h.sub,h.q1,h.nul,d];generalize(f p.1-f q.1)*(f p.1-f q.1)+(f p.2-f q.2)*(f p.2-f q.2)=D;generalize f (iE (aA p q+aA p q))=i;clear hi hx hy d;grind
 ·rw[hy,wC];unfold cZ gM;dsimp only;show f (p.2+qE ((1:Int):Rat)*iE (aA p q+aA p q)*(z+aA p q-z2)*(q.2-p.2))+t*f (qE ((1:Int):Rat)*iE (aA p q+aA p q)*(q.1-p.1))=_;simp only[h.add,h.mul,h.sub,h.q1,d];generalize(f p.1-f q.1)*(f p.1-f q.1)+(f p.2-f q.2)*(f p.2-f q.2)=D;generalize f (iE (aA p q+aA p q))=i;clear hi hx hy d;grind
theorem O5{ts:LL}{f:Et ts->R}(h:Hm f){p q c:P2 ts}(hd:ao (bm p q)≠0){t x y:R}
  (hx:x=f (cZ p (bQ p q c*iE (bm p q)) (aQ q p)).1+t*f (gz p q).1) (hy:y=f (cZ p (bQ p q c*iE (bm p q)) (aQ q p)).2+t*f (gz p q).2) :
  (f q.1-f p.1)*(x-f c.1)+(f q.2-f p.2)*(y-f c.2)=t:=by
 have hi:=h.inv _ hd
 have eS:f (bm p q)=(f q.1-f p.1)*(f q.1-f p.1)+(f q.2-f p.2)*(f q.2-f p.2):=by
  show f ((q.1-p.1)*(q.1-p.1)+(q.2-p.2)*(q.2-p.2))=_;simp only[h.add,h.mul,h.sub]
 have eE:f (bQ p q c)=(f q.1-f p.1)*(f c.1-f p.1)+(f q.2-f p.2)*(f c.2-f p.2):=by
  show f ((q.1-p.1)*(c.1-p.1)+(q.2-p.2)*(c.2-p.2))=_;simp only[h.add,h.mul,h.sub]
 rw[eS]at hi;refine PS hi (k:=(f (bQ p q c)+t)*f (iE (bm p q))) (by rw[eE]) ?_ ?_
 ·rw[hx];unfold cZ gz;show f (p.1+bQ p q c*iE (bm p q)*(q.1-p.1))+t*f (qE ((1:Int):Rat)*iE (bm p q)*(q.1-p.1))=_;simp only[h.add,h.mul,h.sub,h.q1];generalize f (iE (bm p q))=i;generalize f (bQ p q c)=e;clear hi hx hy eS eE;grind
 ·rw[hy];unfold cZ gz;show f (p.2+bQ p q c*iE (bm p q)*(q.2-p.2))+t*f (qE ((1:Int):Rat)*iE (bm p q)*(q.2-p.2))=_;simp only[h.add,h.mul,h.sub,h.q1];generalize f (iE (bm p q))=i;generalize f (bQ p q c)=e;clear hi hx hy eS eE;grind
end
structure CirD(ts T:LL)(x:List Rat×List Rat)(p q:P2 ts)(z z2:Et ts)(m:Int):Prop where
  lf:Lf ts T
  ex:∀d:Et T,af lf.pos d=(af lf.pos (az T q.1)-af lf.pos (az T p.1))*(af lf.pos (dE T x.2)-af lf.pos (az T p.2))-(af lf.pos (az T q.2)-af lf.pos (az T p.2))*(af lf.pos (dE T x.1)-af lf.pos (az T p.1)) ->
    ao d=m
section
variable{ts:LL}
theorem Bh{T:LL}(L:Lf ts T){x:List Rat×List Rat}{p q:P2 ts}{z z2:Et ts}(hd2:ao (aA p q+aA p q)≠0){t:Et T}
  (hx:dE T x.1=az T (dj p q z z2).1+t*az T (gM p q).1) (hy:dE T x.2=az T (dj p q z z2).2+t*az T (gM p q).2) {m:Int} (hm:ao t=m):CirD ts T x p q z z2 m:=by
 have g:=WJ L.hm hd2 (z:=z) (z2:=z2) (t:=af L.pos t) (x:=af L.pos (dE T x.1)) (y:=af L.pos (dE T x.2)) (by rw[hx];rfl) (by rw[hy];rfl);refine⟨L,fun d hd=>?_⟩;have e:af L.pos (d+d)=af L.pos t:=by rw[fc,hd];exact g
 rw[<- hm,<- I1 L.pos d];exact um L.pos e
theorem Nu{r:Nat}(tw:Tw ts r){p q:P2 ts}{z z2:Et ts}(h0:fQ p q z z2=0)(hz:0<ao z) :
  ∀(i:Nat)(x:List Rat×List Rat),(er p q z z2).ps[i]?=some x->CirD ts (er p q z z2).ts x p q z z2 (if(er p q z z2).ps.length=1 then 0 else 1-2*(i:Int)):=by
 intro i x;unfold fQ l8 at h0;unfold er;split
 ·rename_i hd;rw[ab6 hd]at h0;unfold lQ;split
  ·intro hx;simp at hx
  ·intro hx;simp at hx
 ·rename_i hd;have hd2:=HD tw hd;split
  ·intro hx;simp at hx
  ·rename_i hn;split
   ·rename_i hX;intro hx
    match i,hx with
    |0,hx =>
     have hx:(dj p q z z2).l=x:=Option.some.inj hx;subst hx;have hp:eU ts:=tw.pos;refine Bh (m8 hp) hd2 (t:=0) ?_ ?_ ?_
     ·rw[dp,dp,eJ];grind
     ·rw[dp,dp,eJ];grind
     ·exact(eF _ _ hp).zero
    |i+1,hx=>simp at hx
   ·rename_i hX;have hX1:0 < ao (bj p z q z2):=by omega
    have hp:=p7 tw.pos hX1;have L:=pS (bj p z q z2) hp;have s1:=AW (Ep tw.pos hX1);intro hx
    match i,hx with
    |0,hx =>
     have hx:(gK (bj p z q z2) (dj p q z z2) (fW p q) (ek (bj p z q z2) (aA p q))).l=x:=Option.some.inj hx;subst hx;refine Bh L hd2 (t:=bE (bj p z q z2)) ?_ ?_ s1
     ·rw[eJ];exact acd Prod.fst (u9 (bj p z q z2) (dj p q z z2) p q)
     ·rw[eJ];exact acd Prod.snd (u9 (bj p z q z2) (dj p q z z2) p q)
    |1,hx =>
     have hx:(gK (bj p z q z2) (dj p q z z2) (fW p q) (qE ((-1:Int):Rat)*ek (bj p z q z2) (aA p q))).l=x:=Option.some.inj hx;subst hx;refine Bh L hd2 (t:=-bE (bj p z q z2)) ?_ ?_ (by rw[Bj hp,s1];rfl)
     ·rw[eJ,acd Prod.fst (wk (bj p z q z2) (dj p q z z2) p q)];show aP _ _-_*aP _ _=aP _ _+-_*aP _ _;grind
     ·rw[eJ,acd Prod.snd (wk (bj p z q z2) (dj p q z z2) p q)];show aP _ _-_*aP _ _=aP _ _+-_*aP _ _;grind
    |i+2,hx=>simp at hx
structure LinD(ts T:LL)(x:List Rat×List Rat)(p q c:P2 ts)(z:Et ts)(m:Int):Prop where
  lf:Lf ts T
  ex:∀d:Et T,af lf.pos d=(af lf.pos (az T q.1)-af lf.pos (az T p.1))*(af lf.pos (dE T x.1)-af lf.pos (az T c.1))+(af lf.pos (az T q.2)-af lf.pos (az T p.2))*(af lf.pos (dE T x.2)-af lf.pos (az T c.2)) ->
    ao d=m
theorem B7{T:LL}(L:Lf ts T){x:List Rat×List Rat}{p q c:P2 ts}{z:Et ts}(hd:ao (bm p q)≠0){t:Et T}
  (hx:dE T x.1=az T (cZ p (bQ p q c*iE (bm p q)) (aQ q p)).1+t*az T (gz p q).1) (hy:dE T x.2=az T (cZ p (bQ p q c*iE (bm p q)) (aQ q p)).2+t*az T (gz p q).2) {m:Int} (hm:ao t=m):LinD ts T x p q c z m:=by
 have g:=O5 L.hm hd (c:=c) (t:=af L.pos t) (x:=af L.pos (dE T x.1)) (y:=af L.pos (dE T x.2)) (by rw[hx];rfl) (by rw[hy];rfl);refine⟨L,fun d hd=>?_⟩;have e:af L.pos d=af L.pos t:=by rw[hd];exact g
 rw[<- hm];exact um L.pos e
theorem V3{r:Nat}(tw:Tw ts r){p q c:P2 ts}{z:Et ts}(h0:fR p q=0) :
  ∀(i:Nat)(x:List Rat×List Rat),(d8 p q c z).ps[i]?=some x->LinD ts (d8 p q c z).ts x p q c z (if(d8 p q c z).ps.length=1 then 0 else 1-2*(i:Int)):=by
 intro i x;unfold fR at h0;unfold d8;split
 ·intro hx;simp at hx
 ·rename_i hd;split
  ·intro hx;simp at hx
  ·rename_i hn;split
   ·rename_i hX;intro hx
    match i,hx with
    |0,hx =>
     have hx:(cZ p (bQ p q c*iE (bm p q)) (aQ q p)).l=x:=Option.some.inj hx;subst hx;have hp:eU ts:=tw.pos;refine B7 (m8 hp) hd (t:=0) ?_ ?_ ?_
     ·rw[dp,dp,eJ];grind
     ·rw[dp,dp,eJ];grind
     ·exact(eF _ _ hp).zero
    |i+1,hx=>simp at hx
   ·rename_i hX
    have hX2:ao (aX p q c z)=1:=by
     rcases(eF _ _ tw.pos).cs (aX p q c z)with g |g |g
     ·exact acc g hn
     ·exact acc g hX
     ·exact g
    have hX1:0<ao (aX p q c z):=by omega
    have hp:=p7 tw.pos hX1;have L:=pS (aX p q c z) hp;have s1:=AW hX2;intro hx
    match i,hx with
    |0,hx =>
     have hx:(jy (aX p q c z) p (aQ q p) (fB (aX p q c z) (bm p q) (aP (aX p q c z) (bQ p q c)+bE (aX p q c z)))).l=x:=Option.some.inj hx;subst hx;refine B7 L hd (t:=bE (aX p q c z)) ?_ ?_ s1
     ·rw[eJ];exact acd Prod.fst (vR (aX p q c z) p q c)
     ·rw[eJ];exact acd Prod.snd (vR (aX p q c z) p q c)
    |1,hx =>
     have hx:(jy (aX p q c z) p (aQ q p) (fB (aX p q c z) (bm p q) (aP (aX p q c z) (bQ p q c)-bE (aX p q c z)))).l=x:=Option.some.inj hx;subst hx;refine B7 L hd (t:=-bE (aX p q c z)) ?_ ?_ (by rw[Bj hp,s1];rfl)
     ·rw[eJ,acd Prod.fst (xF (aX p q c z) p q c)];show aP _ _-_*aP _ _=aP _ _+-_*aP _ _;grind
     ·rw[eJ,acd Prod.snd (xF (aX p q c z) p q c)];show aP _ _-_*aP _ _=aP _ _+-_*aP _ _;grind
    |i+2,hx=>simp at hx
end
def pinP(l:Li)(T:LL)(bs:List Pq)(j:Jt)(b:Int):P2 T:=if j.a=b then aB l T bs j.b j.on else aB l T bs j.a j.point
def cR(l:Li)(T:LL)(bs:List Pq)(g:Gr):Et T :=
  if g.kind=0 then qE 1
  else if g.kind=1 then gy (aQ (pinP l T bs (am l g 1) (aL g 1)) (pinP l T bs (am l g 0) (aL g 0))) (aQ (br T (bs.getD (aL g 0).toNat a7) (ai l (am l g 2) (aL g 0))) (pinP l T bs (am l g 0) (aL g 0)))
  else if g.kind=2 then dm (aQ (aB l T bs (am l g 1).b (am l g 1).to) (aB l T bs (am l g 1).b (am l g 1).on)) (aQ (br T (bs.getD (aL g 0).toNat a7) (aM l (aL g 0) (am l g 1).point)) (pinP l T bs (am l g 0) (aL g 0)))
  else dm (aQ (aB l T bs (am l g 1).b (am l g 1).to) (aB l T bs (am l g 1).b (am l g 1).on)) (aQ (aB l T bs (am l g 1).a (am l g 1).point) (pinP l T bs (am l g 0) (aL g 0)))
def fi(l:Li)(T:LL)(bs:List Pq)(g:Gr):Et T :=
  if g.kind=0 then qE 1
  else if g.kind=1 then bj (pinP l T bs (am l g 0) (aL g 0)) (qE (ba (ai l (am l g 2) (aL g 0)) (ai l (am l g 0) (aL g 0)))) (pinP l T bs (am l g 1) (aL g 1)) (qE (ba (ai l (am l g 2) (aL g 1)) (ai l (am l g 1) (aL g 1))))
  else if g.kind=2 then aX (aB l T bs (am l g 1).b (am l g 1).on) (aB l T bs (am l g 1).b (am l g 1).to) (pinP l T bs (am l g 0) (aL g 0)) (qE (ba (aM l (aL g 0) (am l g 1).point) (ai l (am l g 0) (aL g 0))))
  else qE (ft l (aL g 0) (am l g 1))*dm (aQ (aB l T bs (am l g 1).a (am l g 1).point) (pinP l T bs (am l g 0) (aL g 0))) (aQ (aB l T bs (am l g 1).a (am l g 1).point) (pinP l T bs (am l g 0) (aL g 0)))
    - qE (bP l (aL g 0) (am l g 0) (am l g 1))*qE (bP l (aL g 0) (am l g 0) (am l g 1))
theorem oQ(l:Li)(a:As)(j:Jt)(b:Int):aw l a j b=pinP l (llq a.rs) (aO a) j b:=by
 unfold aw pinP;split
 ·exact iV l a _ _
 ·exact iV l a _ _
theorem TY(a:As)(b:Int)(q:Rat×Rat):k9 a b q=br (llq a.rs) ((aO a).getD b.toNat a7) q:=by
 have e:(aO a).getD b.toNat a7=⟨lq (a.bs.getD b.toNat default).c,lq (a.bs.getD b.toNat default).s,lq (a.bs.getD b.toNat default).x,lq (a.bs.getD b.toNat default).y⟩:=by
  unfold aO;rw[aaq,aaq,aav];cases a.bs[b.toNat]? <;> rfl
 rw[e];rfl
theorem Ti(l:Li)(a:As)(g:Gr):iU l a g=cR l (llq a.rs) (aO a) g:=by
 unfold iU cR bT;simp only[oQ,iV,TY]
theorem xG(l:Li)(a:As)(g:Gr):jr l a g=fi l (llq a.rs) (aO a) g:=by
 unfold jr fi bY bT;simp only[oQ,iV];rfl
def BW{T:LL}(k:Int)(d:Et T):Et T:=if k=1 then(d+d)*(d+d)else d*d
section
variable{ts T:LL}(L:Lf ts T)
include L
theorem Lf.pinP{l:Li}{bs bs':List Pq}{j:Jt}(b:Int)(ha:dc bs bs' ts.length j.a)(hb:dc bs bs' ts.length j.b) :
  af L.pos (Lw.pinP l T bs' j b).1=af L.pos (az T (Lw.pinP l ts bs j b).1)/\af L.pos (Lw.pinP l T bs' j b).2=af L.pos (az T (Lw.pinP l ts bs j b).2):=by
 unfold Lw.pinP;split
 ·exact L.pt l hb _
 ·exact L.pt l ha _
theorem Lg{l:Li}{bs bs':List Pq}{g:Gr}(h0:g.kind≠0->dc bs bs' ts.length (am l g 0).a/\dc bs bs' ts.length (am l g 0).b)(h1:g.kind≠0->dc bs bs' ts.length (am l g 1).a/\dc bs bs' ts.length (am l g 1).b)
  (hb:g.kind≠0->dc bs bs' ts.length (aL g 0)):af L.pos (cR l T bs' g)=af L.pos (az T (cR l ts bs g)):=by
 unfold cR
 by_cases k0:g.kind=0
 ·rw[ab6 k0,ab6 k0,L.q]
 ·rw[ab5 k0,ab5 k0];have p0:=L.pinP (l:=l) (aL g 0) (h0 k0).1 (h0 k0).2;have p1:=L.pinP (l:=l) (aL g 1) (h1 k0).1 (h1 k0).2
  have own:∀m,af L.pos (br T (bs'.getD (aL g 0).toNat a7) m).1=af L.pos (az T (br ts (bs.getD (aL g 0).toNat a7) m).1)/\af L.pos (br T (bs'.getD (aL g 0).toNat a7) m).2=af L.pos (az T (br ts (bs.getD (aL g 0).toNat a7) m).2):=by
   intro m;rw[(hb k0).1];exact L.at (hb k0).2 m
  have qa:=fun pt=>L.pt l (h1 k0).1 pt
  have qb:=fun pt=>L.pt l (h1 k0).2 pt
  by_cases k1:g.kind=1
  ·rw[ab6 k1,ab6 k1];unfold gy crsE aQ;dsimp only;simp only[L.sub,L.mul,bI,bD];rw[p0.1,p0.2,p1.1,p1.2,(own _).1,(own _).2]
  ·rw[ab5 k1,ab5 k1]
   by_cases k2:g.kind=2
   ·rw[ab6 k2,ab6 k2];unfold dm dotE aQ;dsimp only;simp only[L.sub,L.mul,L.add,bI,bD,fc];rw[p0.1,p0.2,(own _).1,(own _).2,(qb _).1,(qb _).2,(qb _).1,(qb _).2]
   ·rw[ab5 k2,ab5 k2];unfold dm dotE aQ;dsimp only;simp only[L.sub,L.mul,L.add,bI,bD,fc];rw[p0.1,p0.2,(qa _).1,(qa _).2,(qb _).1,(qb _).2,(qb _).1,(qb _).2]
theorem CV{l:Li}{bs bs':List Pq}{g:Gr}(p0:g.kind≠0->af L.pos (Lw.pinP l T bs' (am l g 0) (aL g 0)).1=af L.pos (az T (Lw.pinP l ts bs (am l g 0) (aL g 0)).1)/\af L.pos (Lw.pinP l T bs' (am l g 0) (aL g 0)).2=af L.pos (az T (Lw.pinP l ts bs (am l g 0) (aL g 0)).2))
  (p1:g.kind=1->af L.pos (Lw.pinP l T bs' (am l g 1) (aL g 1)).1=af L.pos (az T (Lw.pinP l ts bs (am l g 1) (aL g 1)).1)/\af L.pos (Lw.pinP l T bs' (am l g 1) (aL g 1)).2=af L.pos (az T (Lw.pinP l ts bs (am l g 1) (aL g 1)).2))
  (hb:g.kind=2->∀pt,af L.pos (aB l T bs' (am l g 1).b pt).1=af L.pos (az T (aB l ts bs (am l g 1).b pt).1)/\af L.pos (aB l T bs' (am l g 1).b pt).2=af L.pos (az T (aB l ts bs (am l g 1).b pt).2))
  (ha:g.kind≠0->g.kind≠1->g.kind≠2->∀pt,af L.pos (aB l T bs' (am l g 1).a pt).1=af L.pos (az T (aB l ts bs (am l g 1).a pt).1)/\af L.pos (aB l T bs' (am l g 1).a pt).2=af L.pos (az T (aB l ts bs (am l g 1).a pt).2)) :
  af L.pos (fi l T bs' g)=af L.pos (az T (fi l ts bs g)):=by
 unfold fi
 by_cases k0:g.kind=0
 ·rw[ab6 k0,ab6 k0,L.q]
 ·rw[ab5 k0,ab5 k0];have p0:=p0 k0
  by_cases k1:g.kind=1
  ·rw[ab6 k1,ab6 k1];have p1:=p1 k1;unfold bj aA dm dotE aQ;dsimp only;simp only[L.sub,L.mul,L.add,L.q,bI,bD,fc];rw[p0.1,p0.2,p1.1,p1.2]
  ·rw[ab5 k1,ab5 k1]
   by_cases k2:g.kind=2
   ·rw[ab6 k2,ab6 k2];have qb:=hb k2;unfold aX bm iw dm dotE gy crsE aQ;dsimp only;simp only[L.sub,L.mul,L.add,L.q,bI,bD,fc];rw[p0.1,p0.2,(qb _).1,(qb _).2,(qb _).1,(qb _).2]
   ·rw[ab5 k2,ab5 k2];have qa:=ha k0 k1 k2;unfold dm dotE aQ;dsimp only;simp only[L.sub,L.mul,L.add,L.q,bI,bD,fc];rw[p0.1,p0.2,(qa _).1,(qa _).2]
end
end Go.Lw
namespace Go.Lw
open Lean.Grind (CommRing)
section
variable{R:Type}[CommRing R]
theorem VQ(p1 p2 q1 q2 x y:R) :
  (((q1-p1)*(y-p2)-(q2-p2)*(x-p1))+((q1-p1)*(y-p2)-(q2-p2)*(x-p1)))*(((q1-p1)*(y-p2)-(q2-p2)*(x-p1))+((q1-p1)*(y-p2)-(q2-p2)*(x-p1))) =
  4*(((x-p1)*(x-p1)+(y-p2)*(y-p2))*((p1-q1)*(p1-q1)+(p2-q2)*(p2-q2)))
   - ((((x-p1)*(x-p1)+(y-p2)*(y-p2))+((p1-q1)*(p1-q1)+(p2-q2)*(p2-q2)))-((x-q1)*(x-q1)+(y-q2)*(y-q2)))
    * ((((x-p1)*(x-p1)+(y-p2)*(y-p2))+((p1-q1)*(p1-q1)+(p2-q2)*(p2-q2)))-((x-q1)*(x-q1)+(y-q2)*(y-q2))):=by grind
theorem Hn(a b u v:R):(a*u+b*v)*(a*u+b*v)=(a*a+b*b)*(u*u+v*v)-(a*v-b*u)*(a*v-b*u):=by grind
theorem Xn{p1 p2 q1 q2 c1 c2 x y:R}(h0:(q1-p1)*(y-p2)-(q2-p2)*(x-p1)=0) :
  ((q1-p1)*(x-c1)+(q2-p2)*(y-c2))*((q1-p1)*(x-c1)+(q2-p2)*(y-c2)) =
  ((q1-p1)*(q1-p1)+(q2-p2)*(q2-p2))*((x-c1)*(x-c1)+(y-c2)*(y-c2))-((q1-p1)*(c2-p2)-(q2-p2)*(c1-p1))*((q1-p1)*(c2-p2)-(q2-p2)*(c1-p1)):=by
 have e:(q1-p1)*(c2-p2)-(q2-p2)*(c1-p1)=-((q1-p1)*(y-c2)-(q2-p2)*(x-c1)):=by grind
 rw[Hn,e];generalize(q1-p1)*(y-c2)-(q2-p2)*(x-c1)=k;clear h0 e;grind
theorem WW{C S u v:R}(h:C*C+S*S=1):(C*u-S*v)*(C*u-S*v)+(S*u+C*v)*(S*u+C*v)=u*u+v*v:=by
 have e:(C*u-S*v)*(C*u-S*v)+(S*u+C*v)*(S*u+C*v)=(C*C+S*S)*(u*u+v*v):=by clear h;grind
 rw[e,h];grind
theorem PQ{C S u v a b:R}(h:C*C+S*S=1):(C*u-S*v)*(S*a+C*b)-(S*u+C*v)*(C*a-S*b)=u*b-v*a:=by
 have e:(C*u-S*v)*(S*a+C*b)-(S*u+C*v)*(C*a-S*b)=(C*C+S*S)*(u*b-v*a):=by clear h;grind
 rw[e,h];grind
end
section
variable{T:LL}(hp:eU T){p:Pq}
include hp
theorem E7(hc:CH T p):af hp (dE T p.c)*af hp (dE T p.c)+af hp (dE T p.s)*af hp (dE T p.s)=1:=by
 have h9:=(fj hp).2 hc;rw[bI,fc,bD,bD,Iq]at h9;grind
theorem zW(m n:Rat×Rat):af hp (br T p n).1-af hp (br T p m).1=af hp (dE T p.c)*af hp (qE (n.1-m.1))-af hp (dE T p.s)*af hp (qE (n.2-m.2)) /\
  af hp (br T p n).2-af hp (br T p m).2=af hp (dE T p.s)*af hp (qE (n.1-m.1))+af hp (dE T p.c)*af hp (qE (n.2-m.2)):=by
 unfold br;dsimp only;rw[kl,kl];simp only[fc,bI,bD];constructor <;> grind
theorem xU(hc:CH T p)(m n:Rat×Rat):(af hp (br T p n).1-af hp (br T p m).1)*(af hp (br T p n).1-af hp (br T p m).1)+(af hp (br T p n).2-af hp (br T p m).2)*(af hp (br T p n).2-af hp (br T p m).2)=af hp (qE (ba n m)):=by
 obtain⟨e1,e2⟩:=zW hp (p:=p) m n;rw[e1,e2,WW (E7 hp hc)];unfold ba b9 bX;dsimp only;rw[om,iF,iF,fc,bD,bD]
theorem Wu(hc:CH T p)(m n k:Rat×Rat):(af hp (br T p n).1-af hp (br T p m).1)*(af hp (br T p m).2-af hp (br T p k).2)-(af hp (br T p n).2-af hp (br T p m).2)*(af hp (br T p m).1-af hp (br T p k).1)=af hp (qE (qd (bX n m) (bX m k))):=by
 obtain⟨e1,e2⟩:=zW hp (p:=p) m n;obtain⟨e3,e4⟩:=zW hp (p:=p) k m
 have en:(qE (qd (bX n m) (bX m k)):Et T)=qE (n.1-m.1)*qE (m.2-k.2)-qE (n.2-m.2)*qE (m.1-k.1):=by
  rw[<- iF,<- iF,<- kl];rfl
 rw[e1,e2,e3,e4,PQ (E7 hp hc),en,bI,bD,bD]
end
theorem wl{l:Li}{T:LL}(hp:eU T){bs:List Pq}{j:Jt}{i:Int}(hk:j.kind=0)(tie:j.a=i\/j.b=i)(h:JH l T bs j) :
  af hp (br T (bs.getD i.toNat a7) (ai l j i)).1=af hp (pinP l T bs j i).1/\af hp (br T (bs.getD i.toNat a7) (ai l j i)).2=af hp (pinP l T bs j i).2:=by
 have e:=D9 hp hk h;unfold ai pinP
 by_cases e1:j.a=i
 ·rw[ab6 e1,ab6 e1];unfold aB at e ⊢;rw[e1]at e;exact e
 ·have e2:j.b=i:=tie.resolve_left e1;rw[ab5 e1,ab5 e1];unfold aB at e ⊢;rw[e2]at e;exact⟨e.1.symm,e.2.symm⟩
theorem uf{l:Li}{kd z i:Int}{bs:List Int}{j:Jt}(t:TieO l kd bs z i j):j.a=i\/j.b=i:=by
 rcases t.tie with⟨e,_⟩ |⟨e,_⟩
 ·exact .inl e
 ·exact .inr e
section
variable{l:Li}{T:LL}{bs:List Pq}{g:Gr}
theorem F8(h:g.kind=1):cR l T bs g=gy (aQ (pinP l T bs (am l g 1) (aL g 1)) (pinP l T bs (am l g 0) (aL g 0))) (aQ (br T (bs.getD (aL g 0).toNat a7) (ai l (am l g 2) (aL g 0))) (pinP l T bs (am l g 0) (aL g 0))):=by
 unfold cR;rw[ab5 oz,ab6 h]
theorem Hk(h:g.kind=2):cR l T bs g=dm (aQ (aB l T bs (am l g 1).b (am l g 1).to) (aB l T bs (am l g 1).b (am l g 1).on)) (aQ (br T (bs.getD (aL g 0).toNat a7) (aM l (aL g 0) (am l g 1).point)) (pinP l T bs (am l g 0) (aL g 0))):=by
 unfold cR;rw[ab5 oz,ab5 oz,ab6 h]
theorem Kb(h:g.kind=3):cR l T bs g=dm (aQ (aB l T bs (am l g 1).b (am l g 1).to) (aB l T bs (am l g 1).b (am l g 1).on)) (aQ (aB l T bs (am l g 1).a (am l g 1).point) (pinP l T bs (am l g 0) (aL g 0))):=by
 unfold cR;rw[ab5 oz,ab5 oz,ab5 oz]
theorem VS(h:g.kind=1):fi l T bs g=bj (pinP l T bs (am l g 0) (aL g 0)) (qE (ba (ai l (am l g 2) (aL g 0)) (ai l (am l g 0) (aL g 0)))) (pinP l T bs (am l g 1) (aL g 1)) (qE (ba (ai l (am l g 2) (aL g 1)) (ai l (am l g 1) (aL g 1)))):=by
 unfold fi;rw[ab5 oz,ab6 h]
theorem Qv(h:g.kind=2):fi l T bs g=aX (aB l T bs (am l g 1).b (am l g 1).on) (aB l T bs (am l g 1).b (am l g 1).to) (pinP l T bs (am l g 0) (aL g 0)) (qE (ba (aM l (aL g 0) (am l g 1).point) (ai l (am l g 0) (aL g 0)))):=by
 unfold fi;rw[ab5 oz,ab5 oz,ab6 h]
theorem XJ(h:g.kind=3):fi l T bs g=qE (ft l (aL g 0) (am l g 1))*dm (aQ (aB l T bs (am l g 1).a (am l g 1).point) (pinP l T bs (am l g 0) (aL g 0))) (aQ (aB l T bs (am l g 1).a (am l g 1).point) (pinP l T bs (am l g 0) (aL g 0)))
  - qE (bP l (aL g 0) (am l g 0) (am l g 1))*qE (bP l (aL g 0) (am l g 0) (am l g 1)):=by
 unfold fi;rw[ab5 oz,ab5 oz,ab5 oz]
end
section
variable{l:Li}{T:LL}(hp:eU T){bs:List Pq}
include hp
theorem MP{i k z0 z1:Int}{j0 j1 j2:Jt}(t0:TieO l 0 [i,k] z0 i j0)(t1:TieO l 0 [i,k] z1 k j1)(ne:i≠k)(kd:j2.kind=0)(tie:(j2.a=i/\j2.b=k)\/(j2.b=i/\j2.a=k))
  (h0:JH l T bs j0) (h1:JH l T bs j1) (h2:JH l T bs j2) (c0:CH T (bs.getD i.toNat a7)) (c1:CH T (bs.getD k.toNat a7)) {x:P2 T} (hx:x=br T (bs.getD i.toNat a7) (ai l j2 i)) :
  (af hp x.1=af hp (br T (bs.getD k.toNat a7) (ai l j2 k)).1/\af hp x.2=af hp (br T (bs.getD k.toNat a7) (ai l j2 k)).2) /\
  ((af hp x.1-af hp (pinP l T bs j0 i).1)*(af hp x.1-af hp (pinP l T bs j0 i).1)+(af hp x.2-af hp (pinP l T bs j0 i).2)*(af hp x.2-af hp (pinP l T bs j0 i).2)=af hp (qE (ba (ai l j2 i) (ai l j0 i)))) /\
  ((af hp x.1-af hp (pinP l T bs j1 k).1)*(af hp x.1-af hp (pinP l T bs j1 k).1)+(af hp x.2-af hp (pinP l T bs j1 k).2)*(af hp x.2-af hp (pinP l T bs j1 k).2)=af hp (qE (ba (ai l j2 k) (ai l j1 k)))):=by
 have o0:=wl hp t0.kd (uf t0) h0;have o1:=wl hp t1.kd (uf t1) h1
 have e:af hp x.1=af hp (br T (bs.getD k.toNat a7) (ai l j2 k)).1/\af hp x.2=af hp (br T (bs.getD k.toNat a7) (ai l j2 k)).2:=by
  have e:=D9 hp kd h2;unfold aB at e;rcases tie with⟨ea,eb⟩ |⟨eb,ea⟩
  ·have q0 : ai l j2 i = aM l i j2.point := by unfold ai; rw [ab6 ea]
   have q1:ai l j2 k=aM l k j2.on:=by unfold ai;rw[ab5 oz]
   rw[ea,eb]at e;rw[hx,q0,q1];exact e
  ·have q0 : ai l j2 i = aM l i j2.on := by unfold ai; rw [ab5 oz]
   have q1:ai l j2 k=aM l k j2.point:=by unfold ai;rw[ab6 ea]
   rw[ea,eb]at e;rw[hx,q0,q1];exact⟨e.1.symm,e.2.symm⟩
 have d0:=xU hp c0 (ai l j0 i) (ai l j2 i);have d1:=xU hp c1 (ai l j1 k) (ai l j2 k);rw[<- hx,o0.1,o0.2]at d0;rw[<- e.1,<- e.2,o1.1,o1.2]at d1;exact⟨e,d0,d1⟩
theorem Om{i z0 z1:Int}{j0 j:Jt}(t0:TieO l 0 [i] z0 i j0)(t1:TieO l 1 [i] z1 i j)(ha:j.a=i)(h0:JH l T bs j0)(h1:JH l T bs j)(c0:CH T (bs.getD i.toNat a7)){x:P2 T}(hx:x=br T (bs.getD i.toNat a7) (aM l i j.point)) :
  ((af hp (aB l T bs j.b j.to).1-af hp (aB l T bs j.b j.on).1)*(af hp x.2-af hp (aB l T bs j.b j.on).2)-(af hp (aB l T bs j.b j.to).2-af hp (aB l T bs j.b j.on).2)*(af hp x.1-af hp (aB l T bs j.b j.on).1)=0) /\
  ((af hp x.1-af hp (pinP l T bs j0 i).1)*(af hp x.1-af hp (pinP l T bs j0 i).1)+(af hp x.2-af hp (pinP l T bs j0 i).2)*(af hp x.2-af hp (pinP l T bs j0 i).2)=af hp (qE (ba (aM l i j.point) (ai l j0 i)))):=by
 have o0:=wl hp t0.kd (uf t0) h0;have s:=JD hp (by rw[t1.kd];decide) h1;have ep:aB l T bs j.a j.point=x:=by rw[hx,ha];rfl
 rw[ep]at s;have d0:=xU hp c0 (ai l j0 i) (aM l i j.point);rw[<- hx,o0.1,o0.2]at d0;exact⟨s,d0⟩
theorem LK{i z0 z1:Int}{j0 j:Jt}(t0:TieO l 0 [i] z0 i j0)(t1:TieO l 1 [i] z1 i j)(ha:j.a≠i)(h0:JH l T bs j0)(h1:JH l T bs j)(c0:CH T (bs.getD i.toNat a7)){w:Zq hp×Zq hp}(hw:w=(af hp (aB l T bs j.b j.to).1-af hp (aB l T bs j.b j.on).1,af hp (aB l T bs j.b j.to).2-af hp (aB l T bs j.b j.on).2)) :
  (w.1*w.1+w.2*w.2=af hp (qE (ft l i j))) /\
  (w.1*(af hp (aB l T bs j.a j.point).2-af hp (pinP l T bs j0 i).2)-w.2*(af hp (aB l T bs j.a j.point).1-af hp (pinP l T bs j0 i).1)=af hp (qE (bP l i j0 j))):=by
 have tb:j.b=i:=(uf t1).resolve_left ha;have o0:=wl hp t0.kd (uf t0) h0;have s:=JD hp (by rw[t1.kd];decide) h1;have eto:aB l T bs j.b j.to=br T (bs.getD i.toNat a7) (aM l i j.to):=by unfold aB;rw[tb]
 have eon:aB l T bs j.b j.on=br T (bs.getD i.toNat a7) (aM l i j.on):=by unfold aB;rw[tb]
 have d0:=xU hp c0 (aM l i j.on) (aM l i j.to);have r0:=Wu hp c0 (aM l i j.on) (aM l i j.to) (ai l j0 i);rw[o0.1,o0.2]at r0;rw[<- eto,<- eon]at d0 r0;refine⟨by rw[hw];exact d0,?_⟩;rw[hw];dsimp only;have e:af hp (qE (bP l i j0 j))=af hp (qE (qd (bX (aM l i j.to) (aM l i j.on)) (bX (aM l i j.on) (ai l j0 i)))):=rfl;rw[e,<- r0];clear e r0 d0
 revert s
 generalize af hp (aB l T bs j.b j.to).1=a1;generalize af hp (aB l T bs j.b j.to).2=a2;generalize af hp (aB l T bs j.b j.on).1=b1;generalize af hp (aB l T bs j.b j.on).2=b2;generalize af hp (aB l T bs j.a j.point).1=u1;generalize af hp (aB l T bs j.a j.point).2=u2;generalize af hp (pinP l T bs j0 i).1=v1;generalize af hp (pinP l T bs j0 i).2=v2;clear eto eon o0;intro s;grind
theorem XX{g:Gr}(hg:DyK l g)(js:∀z∈g.jo,JH l T bs (l.jo.getD z.toNat default))(cs:∀b∈g.bo,CH T (bs.getD b.toNat a7)):af hp (BW g.kind (cR l T bs g))=af hp (fi l T bs g):=by
 cases hg with
 | @drv b z d j dr t d0 hd hb =>
  show af hp ((qE 1:Et T)*qE 1)=af hp (qE 1);have q1:(qE 1:Et T)=1:=rfl;rw[q1,show(1:Et T)*1=1 by grind]
 | @rrr i k z0 z1 z2 j0 j1 j2 ne t0 t1 h0 h2 kd tie =>
  have e0:am l ⟨1,[i,k],[z0,z1,z2],0⟩ 0=j0:=aq t0.hj;have e1:am l ⟨1,[i,k],[z0,z1,z2],0⟩ 1=j1:=aq t1.hj;have e2:am l ⟨1,[i,k],[z0,z1,z2],0⟩ 2=j2:=aq h2;have b0:aL ⟨1,[i,k],[z0,z1,z2],0⟩ 0=i:=rfl;have b1:aL ⟨1,[i,k],[z0,z1,z2],0⟩ 1=k:=rfl;have y0:=js z0 (by simp);have y1:=js z1 (by simp);have y2:=js z2 (by simp);rw[aq t0.hj]at y0;rw[aq t1.hj]at y1;rw[aq h2]at y2;obtain⟨_,d0,d1⟩:=MP hp t0 t1 ne kd tie y0 y1 y2 (cs i (by simp)) (cs k (by simp)) rfl;show af hp ((cR l T bs _+cR l T bs _)*(cR l T bs _+cR l T bs _))=_;rw[F8 rfl,VS rfl,e0,e1,e2,b0,b1,Fm (AG hp) _ _ _ _ (yS (AG hp) _ _),<- d0,<- d1];unfold gy crsE aQ;dsimp only;simp only[bD,fc,bI];exact VQ _ _ _ _ _ _
 | @pr i z0 z1 j0 j1 t0 t1 ha =>
  have e0:am l ⟨2,[i],[z0,z1],0⟩ 0=j0:=aq t0.hj;have e1:am l ⟨2,[i],[z0,z1],0⟩ 1=j1:=aq t1.hj;have b0:aL ⟨2,[i],[z0,z1],0⟩ 0=i:=rfl;have y0:=js z0 (by simp);have y1:=js z1 (by simp);rw[aq t0.hj]at y0;rw[aq t1.hj]at y1;obtain⟨s,d0⟩:=Om hp t0 t1 ha y0 y1 (cs i (by simp)) rfl;show af hp (cR l T bs _*cR l T bs _)=_;rw[Hk rfl,Qv rfl,e0,e1,b0];unfold aX bm iw dm dotE gy crsE aQ;dsimp only;simp only[bD,fc,bI];rw[<- d0];exact Xn s
 | @rp i z0 z1 j0 j1 t0 t1 ha =>
  have e0:am l ⟨3,[i],[z0,z1],0⟩ 0=j0:=aq t0.hj;have e1:am l ⟨3,[i],[z0,z1],0⟩ 1=j1:=aq t1.hj;have b0:aL ⟨3,[i],[z0,z1],0⟩ 0=i:=rfl;have y0:=js z0 (by simp);have y1:=js z1 (by simp);rw[aq t0.hj]at y0;rw[aq t1.hj]at y1;obtain⟨d0,d1⟩:=LK hp t0 t1 ha y0 y1 (cs i (by simp)) rfl;show af hp (cR l T bs _*cR l T bs _)=_;rw[Kb rfl,XJ rfl,e0,e1,b0];unfold dm dotE aQ;dsimp only at d0 d1 ⊢;simp only[bD,fc,bI];rw[<- d0,<- d1];exact Hn _ _ _ _
end
end Go.Lw
namespace Go.Lw
open Go.Proofs
theorem Ji{P:aci}{f:FuncId}{sz:Nat}{r:AV}{H H':Hp}(h:∀(a:Option Addr)(cap:Nat),Con P f [.v (.slice a 0 cap)] H r H'):Con P f [.lst sz []] H r H' :=
 ⟨(h none 0).ok,fun ext m w vs he hr hn hv=>by
  have hn1:vs.size=1:=hn;have h0:=hv 0 vs[0] (.lst sz []) (by simp[hn1]) rfl
  have hy:∃a cap,vs[0]=.slice a 0 cap:=by
   generalize vs[0]=y at h0;cases h0 with
   |lst0 a cap=>exact⟨_,_,rfl⟩
   |lst u hb hc hl hs h1 hu hrr=>exact⟨_,_,rfl⟩
  obtain⟨a,cap,hy⟩:=hy;refine(h a cap).ret ext m w vs he hr hn (fun j v x hv2 hx=>?_)
  match j,hx with
  |0,hx =>
   cases hx;have:v=.slice a 0 cap:=by rw[<- hy];have:=Array.getElem?_eq_some_iff.1 hv2;exact this.2.symm
   subst this;exact .v _⟩
theorem R3(e:AV)(es:List AV)(hc:∀x∈e::es,x.cells.length=1)(hl:(e::es).length<=1000):Con prog 277 [.lst 1 (e::es)] [] (.ms 901 1 0 (e::es).length) [pP 901 (.row 1 (e::es))]:=by
 refine gF func277 (fun k z h=>by cases h) ?_;refine gs (Jx (.tmp rfl) (by kernel_rfl) rfl) ?_;refine gf ?_;refine gs (jI T46 rfl T3 rfl rfl rfl) ?_;refine gs (cK (.tmp rfl) rfl rfl (.tmp rfl) T46 rfl T3 rfl rfl (by simp only[];omega) rfl rfl) ?_ (77777,0);refine gW (Wk.of (sl:=[pP 2 (.ms 7 1 0 (e::es).length)]) (hp:=[pP 7 (.row 1 (e::es))]) (.cons rfl (Sub.of (acd (AV.ms 7 1 0) (Yf _))) .nil) (.k .nil)) ?_;refine gR ?_;exact aC.own1 rfl rfl rfl
theorem WY(a:Option Addr)(cap:Nat):Con prog 277 [.v (.slice a 0 cap)] [] (.ms 901 1 0 0) [pP 901 (.row 1 [])]:=by
 refine gF func277 (fun k z h=>by cases h) ?_;refine gs (H3 (.tmp rfl) (by kernel_rfl) rfl) ?_;refine gC (fun y=>?_) (fun y=>?_) (st1:=(2,0)) (st2:=(77777,0))
 ·refine gW ((Wk.virt 901 1 rfl).trans<|Wk.o (sl:=[]) (hp:=[pP 901 (.row 1 [])])) ?_;refine gR ?_;exact(aC.keep (bq rfl)).sub (Sub.nM _ _ _)
 refine gW (Wk.of (sl:=[pP 0 (.lst 1 [])]) (hp:=[]) (.cons rfl (Sub.nil _ _ _) .nil) .nil) ?_;refine gs (jI T46 rfl T3 rfl rfl rfl) ?_;refine gs (cK (.tmp rfl) rfl rfl (.tmp rfl) T46 rfl T3 rfl rfl (by simp) rfl rfl) ?_ (77777,0);refine gW (Wk.o (sl:=[pP 2 (.ms 7 1 0 0)]) (hp:=[pP 7 (.row 1 [])])) ?_;refine gR ?_;exact aC.own1 rfl rfl rfl
theorem XT(e:AV)(es:List AV)(hc:∀x∈e::es,x.cells.length=4)(hl:(e::es).length<=1000):Con prog 283 [.lst 4 (e::es)] [] (.ms 900 4 0 (e::es).length) [pP 900 (.row 4 (e::es))]:=by
 refine gF func283 (fun k z h=>by cases h) ?_;refine gs (Jx (.tmp rfl) (by kernel_rfl) rfl) ?_;refine gf ?_;refine gs (jI T45 rfl T55 rfl rfl rfl) ?_;refine gs (cK (.tmp rfl) rfl rfl (.tmp rfl) T45 rfl T55 rfl rfl (by simp only[];omega) rfl rfl) ?_ (77777,0);refine gW (Wk.of (sl:=[pP 2 (.ms 7 4 0 (e::es).length)]) (hp:=[pP 7 (.row 4 (e::es))]) (.cons rfl (Sub.of (acd (AV.ms 7 4 0) (Yf _))) .nil) (.k .nil)) ?_;refine gR ?_;exact aC.own1 rfl rfl rfl
theorem Oq(a:Option Addr)(cap:Nat):Con prog 283 [.v (.slice a 0 cap)] [] (.ms 900 4 0 0) [pP 900 (.row 4 [])]:=by
 refine gF func283 (fun k z h=>by cases h) ?_;refine gs (H3 (.tmp rfl) (by kernel_rfl) rfl) ?_;refine gC (fun y=>?_) (fun y=>?_) (st1:=(2,0)) (st2:=(77777,0))
 ·refine gW ((Wk.virt 900 4 rfl).trans<|Wk.o (sl:=[]) (hp:=[pP 900 (.row 4 [])])) ?_;refine gR ?_;exact(aC.keep (bq rfl)).sub (Sub.nM _ _ _)
 refine gW (Wk.of (sl:=[pP 0 (.lst 4 [])]) (hp:=[]) (.cons rfl (Sub.nil _ _ _) .nil) .nil) ?_;refine gs (jI T45 rfl T55 rfl rfl rfl) ?_;refine gs (cK (.tmp rfl) rfl rfl (.tmp rfl) T45 rfl T55 rfl rfl (by simp) rfl rfl) ?_ (77777,0);refine gW (Wk.o (sl:=[pP 2 (.ms 7 4 0 0)]) (hp:=[pP 7 (.row 4 [])])) ?_;refine gR ?_;exact aC.own1 rfl rfl rfl
theorem FJ(es:List AV)(hc:∀x∈es,x.cells.length=1)(hl:es.length<=1000):Con prog 277 [.lst 1 es] [] (.ms 901 1 0 es.length) [pP 901 (.row 1 es)]:=by
 cases es with
 |nil=>exact Ji WY
 |cons e es=>exact R3 e es hc hl
theorem Qr(es:List AV)(hc:∀x∈es,x.cells.length=4)(hl:es.length<=1000):Con prog 283 [.lst 4 es] [] (.ms 900 4 0 es.length) [pP 900 (.row 4 es)]:=by
 cases es with
 |nil=>exact Ji Oq
 |cons e es=>exact XT e es hc hl
theorem Ox(es:List AV)(hc:∀x∈es,x.cells.length=1)(hl:es.length<=1000):FP 277 [.lst 1 es] (.lst 1 es):=by
 have h:=Con.freeze oz (FJ es hc hl)
 rwa [ab1,aa8]at h
theorem J6(ms:List Int):∀x∈ms.map i64,x.cells.length=1:=fun x hx=>by obtain⟨m,_,rfl⟩:=Y8.1 hx;rfl
theorem Rs(bs:List Pq):∀x∈bs.map Pq.av,x.cells.length=4:=fun x hx=>by obtain⟨m,_,rfl⟩:=Y8.1 hx;rfl
theorem sK{n e:Nat}{x:List Rat}(h:Nm n e x)(he:e<=100000000000):FP 278 [nA x] (nA x):=by
 have hlen:=h.nl.len5 h.five;have hqs:∀q∈x,Qs q:=fun q hq=>h.cb.qs oz hq
 refine aj func278 ?_;refine gl ?_;refine gW (Wk.virt 901 3 rfl) ?_;refine aW [6,7] [] (fun(j:Nat)=>[pP 3 (.ms 901 3 0 j),pP 8 (i64 j)]) (fun j=>[pP 901 (.row 3 ((x.take j).map qA))]) (fun j=>j<=x.length) (fun j=>x.length-j) 0 (aa0 _) ?_ (h1:=(.cons rfl (Sub.nM _ _ _) (.k .nil)));rintro j hj K1 J1;refine gC (fun z=>?_) (fun z=>?_) (st2:=(7,0))
 ·have hjn:=a9 z;obtain⟨q,hq⟩:=ay hjn;have hadd:=oJ (rt q) (rt 0) (hqs q (aap hq)).ok Qs.zero.ok;rw[vP,cc]at hadd;refine gi (aH hq) ?_;refine gc (Con.sA (.cons (.refl _) (.cons kf .nil)) hadd) ?_;refine gs (cK (.tmp rfl) rfl (by rw[aar,abc];omega) (.tmp rfl) T53 rfl T106 rfl rfl (by simp only[aa4,abg];omega) rfl rfl) ?_ (6,0);refine gW (Wk.of (sl:=[pP 6 (nA x),pP 7 (i64 x.length),pP 8 (i64 j),pP 3 (.ms 17 3 0 (j+1))]) (hp:=[pP 17 (.row 3 ((x.take (j+1)).map qA))]) bb (.cons rfl (BlkSub.of (by rw[dK hq,abf];rfl)) .nil)) ?_ (6,0);refine gW (Wk.rk (k:=17) (d:=901) rfl rfl) ?_;refine ga aS ?_;exact aR J1 (j+1) hjn
 have hjn:=bn hj z;subst hjn;refine gW ((Wk.freeze (k:=901) rfl).trans<|Wk.of (sl:=[pP 3 (nA x)]) (hp:=[]) (.cons rfl (Sub.of (by rw[b7 (by simp)];simp[nA])) .nil) .nil) ?_;refine ah ?_;rfl
theorem Mj{a:Aq}{n e:Nat}(h5:n<=5)(ht:∀x∈a.ts,Nm n e x)(hb:∀p∈a.bs,Pq.ok n e p)(he:e<=100000000000)(l1:a.ts.length<=100)(l2:a.bs.length<=100)(l3:a.ms.length<=100):FP 152 [a.av] a.av:=by
 refine aj func152 ?_;refine gc (Ox _ (J6 _) (by rw[aar];omega)) ?_;refine gl ?_;refine gW (Wk.virt 900 1 rfl) ?_;refine aW [1,2,3,14,15] [1,2] (fun(i:Nat)=>[pP 16 (i64 i)]) (fun i=>[pP 3 (.box [.ms 900 1 0 i,nS,.lst 1 (a.ms.map i64)]),pP 900 (.row 1 ((a.ts.take i).map nA))]) (fun i=>i<=a.ts.length) (fun i=>a.ts.length-i) 0 (aa0 _) ?_ (h2:=(.cons rfl (BlkSub.bL (.cons (.nM _ _ _) (.cons (.refl _) (.cons (.refl _) .nil))) rfl) (.k .nil)));rintro i hi K1 J1;refine gC (fun z=>?_) (fun z=>?_) (st2:=(7,0))
 ·have hin:=a9 z;obtain ⟨d,hd⟩:=ay hin;refine gi (aH hd) ?_;refine gc (sK (ht d (aap hd)) he) ?_;refine gs (cK (.tmp rfl) rfl (by rw [aar,abc]; omega) (.tmp rfl) T42 rfl T53 rfl rfl (by simp only [aa4,abg]; omega) rfl rfl) ?_;refine gD ?_ (6,0);refine gW (Wk.of (sl:=[pP 1 (.ptr 1 0),pP 2 (.ptr 2 0),pP 3 (.ptr 3 0),pP 14 (.lst 1 (a.ts.map nA)),pP 15 (i64 a.ts.length),pP 16 (i64 i)]) (hp:=[pP 1 (.box a.cs),pP 2 (.box [nS,nS,nS]),pP 3 (.box [.ms 26 1 0 (i + 1),nS,.lst 1 (a.ms.map i64)]),pP 26 (.row 1 ((a.ts.take (i + 1)).map nA))]) bb (.k (.k (.k (.cons rfl (BlkSub.of (by rw [dK hd,abf]; rfl)) .nil))))) ?_ (6,0)
  refine gW (Wk.rk (k:=26) (d:=900) rfl rfl) ?_;refine ga aS ?_;exact aR J1 (i+1) hin
 have hin:=bn hi z;subst hin;refine gW ((Wk.freeze (k:=900) rfl).trans<|Wk.of (sl:=[pP 1 (.ptr 1 0),pP 2 (.ptr 2 0),pP 3 (.ptr 3 0)]) (hp:=[pP 1 (.box a.cs),pP 2 (.box [nS,nS,nS]),pP 3 (.box [.lst 1 (a.ts.map nA),nS,.lst 1 (a.ms.map i64)])]) bb (.k (.k (.cons rfl (BlkSub.bL (.cons (Sub.of (by rw[b7 (by simp)];simp)) (.cons (.refl _) (.cons (.refl _) .nil))) rfl) .nil)))) ?_;refine gl ?_;refine gW (Wk.virt 902 4 rfl) ?_;refine aW [1,2,3,31,32] [1,2] (fun(i:Nat)=>[pP 33 (i64 i)]) (fun i=>[pP 3 (.box [.lst 1 (a.ts.map nA),.ms 902 4 0 i,.lst 1 (a.ms.map i64)]),pP 902 (.row 4 ((a.bs.take i).map Pq.av))]) (fun i=>i<=a.bs.length) (fun i=>a.bs.length-i) 0 (aa0 _) ?_ (h2:=(.cons rfl (BlkSub.bL (.cons (.refl _) (.cons (.nM _ _ _) (.cons (.refl _) .nil))) rfl) (.k .nil)));rintro i hi K2 J2;refine gC (fun z=>?_) (fun z=>?_) (st2:=(12,0))
 ·have hin:=a9 z;obtain ⟨p,hp⟩:=ay hin;have ok:=hb p (aap hp);refine gi (aH hp) ?_;refine gc (sK ok.c he) ?_;refine gc (sK ok.s he) ?_;refine gc (sK ok.x he) ?_;refine gc (sK ok.y he) ?_;refine gs (cK (.tmp rfl) rfl (by rw [aar,abc]; omega) (.tmp rfl) T45 rfl T55 rfl rfl (by simp only [aa4,abg]; omega) rfl rfl) ?_;refine gD ?_ (11,0);refine gW (Wk.of (sl:=[pP 1 (.ptr 1 0),pP 2 (.ptr 2 0),pP 3 (.ptr 3 0),pP 31 (.lst 4 (a.bs.map Pq.av)),pP 32 (i64 a.bs.length),pP 33 (i64 i)]) (hp:=[pP 1 (.box a.cs),pP 2 (.box [nS,nS,nS]),pP 3 (.box [.lst 1 (a.ts.map nA),.ms 53 4 0 (i + 1),.lst 1 (a.ms.map i64)]),pP 53 (.row 4 ((a.bs.take (i + 1)).map Pq.av))]) bb (.k (.k (.k (.cons rfl (BlkSub.of (by rw [dK hp,abf]; rfl)) .nil))))) ?_ (11,0)
  refine gW (Wk.rk (k:=53) (d:=902) rfl rfl) ?_;refine ga aS ?_;exact aR J2 (i+1) hin
 have hin:=bn hi z;subst hin;refine gW ((Wk.freeze (k:=902) rfl).trans<|Wk.of (sl:=[pP 2 (.ptr 2 0),pP 3 (.ptr 3 0)]) (hp:=[pP 2 (.box [nS,nS,nS]),pP 3 (.box a.cs)]) bb (.k (.cons rfl (BlkSub.bL (.cons (.refl _) (.cons (Sub.of (by rw[b7 (by simp)];simp)) (.cons (.refl _) .nil))) rfl) .nil))) ?_;refine ah ?_;rfl
theorem SX{a:Aq}{g:Gr}{s:Sv}(hb:∀b∈g.bo,0<=b/\b<a.bs.length)(hl:s.ps.length=g.bo.length)(l1:a.bs.length<=100)(l2:a.ms.length<=100)(l3:g.bo.length<=100):FP 155 [a.av,g.av,s.av] (a.nxt g s).av:=by
 refine aj func155 ?_;refine gt (aE (Qr _ (Rs _) (by rw[aar];omega)) (cG rfl) aG rfl rfl) ?_;refine gt (aE (FJ _ (J6 _) (by rw[aar];omega)) (cG rfl) aG rfl rfl) ?_;refine gs (cK (.tmp rfl) rfl rfl (.tmp rfl) T46 rfl T3 rfl rfl (by simp only[aar,aa4,abg];omega) rfl rfl) ?_;refine gD ?_ (2,0);refine gW ((Wk.freeze (k:=21) rfl).trans<|Wk.of (sl:=[pP 3 (.ptr 3 0),pP 4 (.ptr 4 0),pP 5 (.ptr 5 0),pP 6 (.ptr 6 0),pP 7 (.ptr 7 0)]) (hp:=[pP 3 (.box a.cs),pP 4 (.box g.av.cells),pP 5 (.box s.av.cells),pP 6 (.box [nS,nS,nS]),pP 7 (.box [.lst 1 (s.ts.map nA),.ms 900 4 0 a.bs.length,.lst 1 ((a.ms++[s.mode]).map i64)]),pP 900 (.row 4 ((a8 a.bs (g.bo.take 0) (s.ps.take 0)).map Pq.av))]) bb (.k (.k (.k (.k (.cons rfl (BlkSub.bL (.cons (.refl _) (.cons (Sub.of (acd (AV.ms 900 4 0) (aar _))) (.cons (Sub.of (by rw[b7 (by simp)];simp)) .nil))) rfl) (.k .nil))))))) ?_
 refine gl ?_;refine aW [3,4,5,6,7,24,25] [3,4,5,6,7] (fun(i:Nat)=>[pP 26 (i64 i)]) (fun i=>[pP 900 (.row 4 ((a8 a.bs (g.bo.take i) (s.ps.take i)).map Pq.av))]) (fun i=>i<=g.bo.length) (fun i=>g.bo.length-i) 0 (aa0 _) ?_;rintro i hi K1 J1;refine gC (fun z=>?_) (fun z=>?_) (st2:=(7,0))
 ·have hin:=a9 z;obtain⟨b,hbi⟩:=ay hin;obtain⟨p,hp⟩:=ay (l:=s.ps) (i:=i) oz;obtain⟨hb0,hb1⟩:=hb b (aap hbi);have hpl:=w9 a.bs (g.bo.take i) (s.ps.take i);obtain⟨o,ho⟩:=ay (l:=a8 a.bs (g.bo.take i) (s.ps.take i)) (i:=b.toNat) oz;refine gi (aH hbi) ?_;refine gi (aH hp) ?_;refine gs (mw (.tmp rfl) (.tmp rfl) T45 rfl T55 rfl oz oz rfl) ?_;refine gs (dM (.tmp rfl) rfl (by rw[Yf,aav,ho];rfl) rfl (.tmp rfl) rfl rfl T55 rfl rfl) ?_;refine gD ?_;refine ga aS ?_;exact aR J1 (i+1) hin (hw:=Wk.of bb (.cons rfl (BlkSub.of (by rw[S9 hbi hp,ab0,Yf];rfl)) (.k (.k (.k (.k (.k .nil)))))))
 have hin:=bn hi z;subst hin;refine gW ((Wk.freeze (k:=900) rfl).trans<|Wk.of (sl:=[pP 6 (.ptr 6 0),pP 7 (.ptr 7 0)]) (hp:=[pP 6 (.box [nS,nS,nS]),pP 7 (.box (a.nxt g s).cs)]) bb (.k (.cons rfl (BlkSub.bL (.cons (.refl _) (.cons (Sub.of (by rw[b7 (by rw[aar,w9])];rw[aa8,aa7 oz];rfl)) (.cons (.refl _) .nil))) rfl) .nil))) ?_;refine ah ?_;rfl
abbrev fI(l:Li)(xs:List Tn)(G:List Gr)(fo:FuncId)(caps:List AV)(sg:Bool)(o:AV):List AV:=l.av.cells++[.lst 4 (xs.map Tn.av),.lst 4 (G.map Gr.av),.cl fo [] caps,bl sg,o]
abbrev fF(l:Li)(xs:List Tn)(G:List Gr)(fo:FuncId)(caps:List AV)(sg:Bool)(k:Nat)(es:List AV):Hp :=
  [pP 1000 (.box (fI l xs G fo caps sg (.ms k 3 0 es.length))),(k,some (.row 3 es))]
theorem xH{k k0:Nat}{x y:Option Blk}{z:Blk}(h0:1000<=k0)(h:lk [(1000,x),(k0,y)] k=some z):1000<=k:=by
 rw[aY]at h;split at h
 ·omega
 ·rw[aY]at h;split at h
  ·omega
  ·cases h
theorem W6{l:Li}{xs:List Tn}{G:List Gr}{fo:FuncId}{caps:List AV}{sg:Bool}{es:List AV}{g:Gr}(hd:g.kind=0->0<=g.driver/\g.driver<xs.length)(hl:xs.length<=100) :
  Con prog 154 [.ptr 1000 0,g.av] (fF l xs G fo caps sg 1001 es) (cB g xs).av (fF l xs G fo caps sg 1001 es):=by
 refine gF func154 (fun k z h=>xH oz h) ?_;refine gC (fun y=>?_) (fun y=>?_)
 ·have hk : g.kind ≠ 0 := by simpa [aa] using y
  refine gR ?_;exact(aC.keep (mD rfl rfl)).sub (by unfold cB;rw[ab5 hk];exact Sub.agg (.cons (.refl _) (.cons (Sub.nil _ _ _) (.cons (Sub.nil _ _ _) (.cons (.refl _) .nil)))) rfl)
 have hk:g.kind=0:=by simpa[aa]using y
 obtain⟨h0,h1⟩:=hd hk;obtain⟨x,hx⟩:=ay (l:=xs) (i:=g.driver.toNat) oz;refine gi (gG (n:=g.driver.toNat) oz hx) ?_;refine gD ?_;refine gR ?_;exact(aC.keep (mD rfl rfl)).sub (by unfold cB;rw[ab6 hk,aq hx];exact .refl _)
theorem NS:kr (.agg [nS,nS,nS,nS]) a7.av:=by
 refine⟨rfl,?_⟩;intro j x y hx hy
 match j,hx,hy with
 |0,hx,hy=>cases hx;cases hy;exact⟨rfl,.nil _ _ _⟩
 |1,hx,hy=>cases hx;cases hy;exact⟨rfl,.nil _ _ _⟩
 |2,hx,hy=>cases hx;cases hy;exact⟨rfl,.nil _ _ _⟩
 |3,hx,hy=>cases hx;cases hy;exact⟨rfl,.nil _ _ _⟩
theorem Tx(n:Nat):BlkSub (.row 4 (Y6 n (.agg [nS,nS,nS,nS]))) (.row 4 ((Y6 n a7).map Pq.av)):=by
 refine .row (by simp) ?_;intro i e e' he he';rw[abw,abl]at he';rw[abl]at he;split at he
 ·rename_i h;rw[ab6 h]at he';cases he;cases he'
  exact NS
 ·cases he
theorem PM:lw.av=.agg [nA (sh 0 (((1:Int):Rat):Rat)),nA [],nA [],nA []]:=by
 have h:sh 0 (((1:Int):Rat):Rat)=[1]:=by decide +kernel
 rw[h];rfl
theorem Wi{l:Li}{xs:List Tn}{G:List Gr}{fo:FuncId}{caps:List AV}{sg:Bool}{es:List AV}(h0:0<l.bo.length)(hl:l.bo.length<=100) :
  Con prog 65 [.ptr 1000 0] (fF l xs G fo caps sg 1001 es) (eW l).av (fF l xs G fo caps sg 1001 es):=by
 refine gF func65 (fun k z h=>xH oz h) ?_;refine gl ?_;refine gs (iD (.tmp rfl) T45 rfl T55 rfl rfl oz (by dsimp only;omega) rfl) ?_ (2,0);refine gW (Wk.of (sl:=[pP 2 (.ptr 2 0),pP 3 (.ptr 3 0)]) (hp:=[pP 2 (.box [nS,nS,nS]),pP 3 (.box [nS,.ms 10 4 0 l.bo.length,nS]),pP 10 (.row 4 ((Y6 l.bo.length a7).map Pq.av)),pP 1000 (.box (fI l xs G fo caps sg (.ms 1001 3 0 es.length))),pP 1001 (.row 3 es)]) bb (.k (.k (.cons rfl (Tx _) (.k (.k .nil)))))) ?_;refine gc (kH 1 oz) ?_;refine gc (mh (q:=((1:Int):Rat)) (Qb.one.qs oz)) ?_;refine gs (cg (n:=0) (.tmp rfl) (.const _) T45 rfl T55 rfl oz oz rfl) ?_ (2,7);refine gs (DI (e:=a7.av) (e':=.agg [nA (sh 0 (((1:Int):Rat):Rat)),nA [],nA [],nA []]) (.tmp rfl) rfl (by rw[aav,abl,ab6 h0];rfl) (.tmp rfl) rfl rfl T53 rfl rfl rfl) ?_;refine gD ?_ (3,0);refine gW ((Wk.freeze (k:=10) rfl).trans<|Wk.of (sl:=[pP 2 (.ptr 2 0),pP 3 (.ptr 3 0)]) (hp:=[pP 2 (.box [nS,nS,nS]),pP 3 (.box [nS,.lst 4 ((eW l).bs.map Pq.av),nS]),pP 1000 (.box (fI l xs G fo caps sg (.ms 1001 3 0 es.length))),pP 1001 (.row 3 es)]) bb (.k (.cons rfl (BlkSub.bL (.cons (.refl _) (.cons (Sub.of (by rw[b7 (by simp)];unfold eW;rw[ab0,PM])) (.cons (.refl _) .nil))) rfl) (.k (.k .nil))))) ?_
 refine gR ?_;exact(aC.keep (mD rfl rfl)).sub (Sub.agg (.cons (Sub.nil _ _ _) (.cons (.refl _) (.cons (Sub.nil _ _ _) .nil))) rfl)
theorem LJ(k m:Int):FP 151 [i64 k,i64 m] (bl true):=by
 refine aj func151 ?_;refine ah ?_;rfl
theorem X7{modes:List Int}{k:Nat}(hk:k<modes.length)(hl:modes.length<=100)(m:Int):FP 162 [i64 k,i64 m,.iptr [.lst 1 (modes.map i64)]] (bl (decide (m=modes.getD k 0))):=by
 obtain⟨x,hx⟩:=ay hk;refine aj func162 ?_;refine gi (aH hx) ?_;refine gR ?_;exact dS (Sub.of (by rw[aq hx,oT];rfl))
def tV(l:Li)(xs:List Tn):Nat:=if splitE l≠0 then splitE l else if xs.length≠l.dv.length then 10 else e8 (xs.map Tn.err)
def cW(l:Li)(xs:List Tn):Nat:=if aN l≠0 then aN l else tV l xs
def uU(e:Nat)(l:Li)(xs:List Tn):Hp:=if e=0 then[pP 900 (.box (fI l xs (splitG l) 151 [] false (nS)))]else[]
theorem xY{e:Nat}(h:e≠0){l:Li}{xs:List Tn}:uU e l xs=[]:=ab5 h
theorem KZ{l:Li}{xs:List Tn}{e:Nat}(he:(if aN l=0 then splitE l else aN l)=e)(h:e≠0):cW l xs=e:=by
 unfold cW tV
 by_cases h1:aN l=0
 ·rw[ab6 h1]at he;rw[ab5 oz,ab6 oz,he]
 ·rw[ab5 h1]at he;rw[ab6 h1,he]
theorem F3{l:Li}{xs:List Tn}(h:aN l=0)(hs:splitE l=0):cW l xs=if xs.length≠l.dv.length then 10 else e8 (xs.map Tn.err):=by
 unfold cW tV;rw[ab5 oz,ab5 oz]
theorem DL(l:Li)(hl:l.ok)(xs:List Tn)(hx:∀x∈xs,x.t.ok)(hn:xs.length<=100) :
  Con prog 63 [l.av,.lst 4 (xs.map Tn.av)] [] (.tup [rI (cW l xs),bF (cW l xs)]) (uU (cW l xs) l xs):=by
 have hld:=hl.ld;refine gF func63 (fun k z h=>by cases h) ?_;refine gc (BX l hl) ?_;refine gC (fun u=>?_) (fun u=>?_)
 ·have h1:=dH u;refine gR ?_;rw[KZ rfl h1,lW h1,xY h1];exact jg rfl
 have h1:=dD u;obtain⟨hli,hsp⟩:=G3 h1;rw[show(if aN l=0 then splitG l else[])=splitG l from ab6 hli];refine gl ?_;refine gl ?_;refine gC (fun u=>?_) (fun u=>?_)
 ·have h2:=yG u;have he:cW l xs = 10:=by rw [F3 hli hsp,ab6 h2]
  refine gR ?_;rw[he,lW (by decide),xY (by decide)];exact jg rfl
 have h2:=Ay u;have he0:cW l xs=e8 (xs.map Tn.err):=by rw[F3 hli hsp,ab5 oz]
 refine gl ?_;refine aW [1,2,6,26,27] [2] (fun(i:Nat)=>[pP 28 (i64 i)]) (fun _=>[]) (fun i=>i<=xs.length/\∀y∈xs.take i,y.err=0) (fun i=>xs.length-i) 0 ⟨aa0 _,fun y hy=>by simp at hy⟩ ?_;rintro i ⟨hi,hz⟩ K1 J1;refine gC (fun u=>?_) (fun u=>?_) (st2:=(13,0))
 ·have hin:=a9 u;obtain⟨x,hxi⟩:=ay hin;refine gi (aH hxi) ?_;refine gc (wF x (hx x (aap hxi))) ?_;refine gC (fun u=>?_) (fun u=>?_)
  ·have h3:=dH u;have he:cW l xs = x.err:=by rw [he0]; exact GG hxi hz h3
   refine gR ?_;rw[he,lW h3,xY h3];exact jg rfl
  have h3:=dD u;refine ga aS ?_;exact aR J1 (i+1) ⟨hin,fun z hz2=>by rw[dK hxi]at hz2;rcases aa2.1 hz2 with h9 |h9;exact hz z h9;(rw[Za.1 h9];exact h3)⟩
 have hin:=bn hi u;have he:cW l xs=0:=by rw[he0];exact pK (fun y hy=>hz y (by rw[hin,aa8];exact hy))
 refine gW (Wk.o (sl:=[pP 1 (.lst 4 (xs.map Tn.av)),pP 2 (.ptr 2 0),pP 6 (.lst 4 ((splitG l).map Gr.av))]) (hp:=[pP 2 (.box l.av.cells)])) ?_ (77777,0);refine gW (Wk.of (sl:=[pP 4 (.ptr 42 0),pP 5 (.v .nilIface)]) (hp:=[pP 42 (.box (fI l xs (splitG l) 151 [] false (nS)))]) bb (.cons rfl (BlkSub.bL (.cons (.refl _) (.cons (.refl _) (.cons (.refl _) (.cons (.refl _) (.cons (.refl _) (.cons (.refl _) (.cons ((Sub.fn0 _).trans (sJ rfl)) (.cons (.refl _) (.cons (.refl _) .nil))))))))) rfl) .nil)) ?_ (77777,0);refine gW (Wk.rk (k:=42) (d:=900) rfl rfl) ?_;refine gR ?_;rw[he];exact aC.keep (bq rfl)
section
variable{P:aci}{N:Nat}{R:Array Oper}{s:AS}{pos:String}{after:Array Edge}
theorem CW{d f k k2:Nat}{bx bx2:Blk}{args:Array acf}{ts:Array ach}{xs:List AV}{r:AV}{t:ach}
  (hcon:Con P f xs [(k,some bx),(k2,some bx2)] r [(k,some bx),(k2,some bx2)]) (ha:EvL s args.toList xs) (hne:YQ k2 k=false) (hk:s.blk k=some bx) (hk2:s.blk k2=some bx2)
  (hok:iZ s [(k,some bx),(k2,some bx2)] [(k,some bx),(k2,some bx2)] r=true) (hN:X9 d N=true) :
  Step P N R s ⟨some d,.call ⟨.value (.func f),args,ts⟩,t,pos,after,none⟩ ⟨some r,[],eV args.toList,[k,k2]⟩:=by
 have hne':k2≠k:=fun e=>by rw[e,Yy]at hne;cases hne
 refine Step.weaken (aE (d:=d) hcon ha (fun k' z h=>by
  rcases mX h with⟨rfl,h9⟩ |⟨_,rfl,h9⟩
  ·cases h9;exact hk
  ·cases h9;exact hk2) hok hN) (fun s' h=>h) (fun s' h k' hk'=>?_) (fun s' h=>?_)
 ·left;simp only[abf,dw,ab2,map_nil,aa2,abd,abb,or_false]at hk' ⊢;rcases hk' with h9 |h9 <;> exact h9
 ·intro C m a w hr;refine ⟨m,hr.weak (fun t x hx=>⟨x,hx,.refl _⟩) (fun k' x hx=>⟨x,?_,.refl _⟩)⟩;have hb:lk s'.hp k = some bx:=(h.2 k (by simp)).trans hk;have hb2:lk s'.hp k2 = some bx2:=(h.2 k2 (by simp)).trans hk2;show lk ([(k,some bx),(k2,some bx2)] ++ dw [(k,some bx),(k2,some bx2)] ++ s'.hp) k' = some x;have hx':lk s'.hp k' = some x:=hx;simp only [dw,ab2,map_nil,Y4,nil_append,aY]
  by_cases e:k'=k
  ·rw[ab6 e];rw[e,hb]at hx';exact hx'
  ·rw[ab5 e]
   by_cases e2:k'=k2
   ·rw[ab6 e2];rw[e2,hb2]at hx';exact hx'
   ·rw[ab5 e2,ab5 e,ab5 e2];exact hx'
end
def rW(k:Nat):Nat:=bif YQ k 1001 then 901 else bif YQ k 901 then 1001 else k
theorem NV(k:Nat):rW (rW k)=k:=by
 by_cases h1:k=1001
 ·subst h1;rfl
 ·by_cases h2:k=901
  ·subst h2;rfl
  ·have nb:∀{a b:Nat},a≠b->YQ a b=false:=fun h=>by
    cases h9:YQ _ _ with
    |false=>rfl
    |true=>exact acc (aax h9) h
   have e:rW k=k:=by simp only[rW,nb h1,nb h2,cond_false]
   rw[e,e]
theorem KY{l:Li}{xs:List Tn}{G:List Gr}{fo:FuncId}{caps:List AV}{sg:Bool}{es es':List AV}{a:Aq}{e:Nat}
  (h:Con prog 64 [.ptr 1000 0,a.av] (fF l xs G fo caps sg 1001 es) (bF e) (fF l xs G fo caps sg 900 es')) :
  Con prog 64 [.ptr 1000 0,a.av] (fF l xs G fo caps sg 901 es) (bF e) (fF l xs G fo caps sg 900 es') :=
 Con.pm NV h
theorem Mv{l:Li}{xs:List Tn}{G:List Gr}{fo:FuncId}{caps:List AV}{sg:Bool}{o:List Aq}{a:Aq}(hk:a.ms.length=G.length)(hG:G.length<=100)(ho:o.length<=1000)
  (hcl:FP 152 [a.av] a.av) :
  Con prog 64 [.ptr 1000 0,a.av] (fF l xs G fo caps sg 1001 (o.map Aq.av)) (bF 0) (fF l xs G fo caps sg 900 ((o++[a]).map Aq.av)):=by
 refine gF func64 (fun k z h=>xH oz h) ?_;refine gl ?_;refine gl ?_;refine gC (fun y=>?_) (fun y=>?_) (st2:=(77777,0))
 ·refine gc hcl ?_;refine gs (cK (.tmp rfl) rfl (by rw [aar]) (.tmp rfl) T33 rfl T48 rfl rfl (by simp only [aar,aa4,abg]; omega) rfl rfl) ?_;refine gD ?_ (4,0);refine gW (Wk.of (sl:=[pP 4 (.v .nilIface)]) (hp:=[pP 1000 (.box (fI l xs G fo caps sg (.ms 30 3 0 ((o ++ [a]).map Aq.av).length))),pP 30 (.row 3 ((o ++ [a]).map Aq.av))]) bb (.cons rfl (BlkSub.bL (.cons (.refl _) (.cons (.refl _) (.cons (.refl _) (.cons (.refl _) (.cons (.refl _) (.cons (.refl _) (.cons (.refl _) (.cons (.refl _) (.cons (Sub.of (by simp)) .nil))))))))) rfl) (.cons rfl (BlkSub.of (by rw [abf]; rfl)) .nil))) ?_ (4,0)
  refine gW (Wk.rk (k:=30) (d:=900) rfl rfl) ?_;refine gR ?_;exact aC.keep (mD rfl rfl)
 exact acc y (by rw[hk];simp[aa])
theorem rq(F:Int->Bool)(sg:Bool)(f:Sv->List Aq×Nat)(s:Sv)(r:List Sv) :
  fJ F sg f (s::r)=if F s.mode=false then fJ F sg f r else if(f s).2≠0 then f s else if sg=true then f s else((f s).1++(fJ F sg f r).1,(fJ F sg f r).2):=rfl
theorem rf{α:Type}{l:List α}{i:Nat}{x:α}(h:l[i]?=some x):l.drop i=x::l.drop (i+1):=by
 obtain⟨hi,e⟩:=Y1.1 h;rw[Y5 hi,e]
def rH(F:Int->Bool)(sg:Bool)(f:Sv->List Aq×Nat)(S:List Sv)(i:Nat)(c:List Aq):Prop :=
  i<=S.length/\fJ F sg f S=(c++(fJ F sg f (S.drop i)).1,(fJ F sg f (S.drop i)).2)
theorem QD(F:Int->Bool)(sg:Bool)(f:Sv->List Aq×Nat)(S:List Sv):rH F sg f S 0 []:=⟨aa0 _,rfl⟩
section
variable{F:Int->Bool}{sg:Bool}{f:Sv->List Aq×Nat}{S:List Sv}{i:Nat}{c:List Aq}(h:rH F sg f S i c){s:Sv}(hs:S[i]?=some s)
include h hs
theorem RU(hF:F s.mode=false):rH F sg f S (i+1) c:=by
 have h2:=h.2;rw[rf hs,rq,ab6 hF]at h2;exact⟨(Y1.1 hs).1,h2⟩
theorem La(hF:F s.mode=true)(he:(f s).2≠0):fJ F sg f S=(c++(f s).1,(f s).2):=by
 have h2:=h.2;rw[rf hs,rq,ab5 (by rw[hF];simp),ab6 he]at h2;exact h2
theorem Rf(hF:F s.mode=true)(he:(f s).2=0)(h1:sg=true):fJ F sg f S=(c++(f s).1,0):=by
 have h2:=h.2;rw[rf hs,rq,ab5 (by rw[hF];simp),ab5 oz,ab6 h1,he]at h2;exact h2
theorem Xp(hF:F s.mode=true)(he:(f s).2=0)(h1:sg=false):rH F sg f S (i+1) (c++(f s).1):=by
 have h2:=h.2;rw[rf hs,rq,ab5 (by rw[hF];simp),ab5 oz,ab5 (by rw[h1];simp)]at h2;exact⟨(Y1.1 hs).1,by rw[h2,abu]⟩
end
theorem Xf{F:Int->Bool}{sg:Bool}{f:Sv->List Aq×Nat}{S:List Sv}{c:List Aq}(h:rH F sg f S S.length c):fJ F sg f S=(c,0):=by
 have h2:=h.2;rw[Y7]at h2;rw[h2];simp[fJ]
theorem Rh{l:Li}{xs:List Tn}{G:List Gr}{fo:FuncId}{caps:List AV}{sg:Bool}{o:List Aq}{a:Aq}{g:Gr}(hg:G[a.ms.length]?=some g)(hG:G.length<=100)(hx:xs.length<=100)(hd:g.kind=0->0<=g.driver/\g.driver<xs.length)
  {S:List Sv} {E:Nat} (hS:FP 153 [l.av,i64 a.ms.length,(cB g xs).av,a.av] (.tup [.lst 3 (S.map Sv.av),bF E])) (hSl:S.length<=100)
  {F:Int->Bool} (hF:∀m,FP fo ([i64 a.ms.length,i64 m]++caps) (bl (F m)))
  (hb:∀s∈S,FP 155 [a.av,g.av,s.av] (a.nxt g s).av)
  {f:Sv->List Aq×Nat} {M B:Nat} (hM:∀s∈S,(f s).1.length<=M) (hB:o.length+S.length*M<=B) (ih:∀(o:List Aq),o.length+M<=B->∀s∈S,Con prog 64 [.ptr 1000 0,(a.nxt g s).av] (fF l xs G fo caps sg 1001 (o.map Aq.av)) (bF (f s).2) (fF l xs G fo caps sg 900 ((o++(f s).1).map Aq.av))) :
  Con prog 64 [.ptr 1000 0,a.av] (fF l xs G fo caps sg 1001 (o.map Aq.av)) (bF (if E≠0 then E else(fJ F sg f S).2)) (fF l xs G fo caps sg 900 ((o++(if E≠0 then[]else(fJ F sg f S).1)).map Aq.av)):=by
 have hkG:=(Y1.1 hg).1;refine gF func64 (fun k z h=>xH oz h) ?_;refine gl ?_;refine gl ?_;refine gC (fun y=>?_) (fun y=>?_) (st1:=(3,0));exact acc y (by simp[aa];omega);refine gi (aH hg) ?_;refine gt (CW (W6 hd hx) (bC rfl rfl) rfl rfl rfl rfl rfl) ?_;refine gc hS ?_;refine gD ?_;refine gC (fun y=>?_) (fun y=>?_) (st1:=(8,0)) (st2:=(77777,0))
 ·have hE:=dH y;refine gW (Wk.o (sl:=[pP 4 (.v .nilIface),pP 8 (bF E)]) (hp:=[pP 1000 (.box (fI l xs G fo caps sg (.ms 1001 3 0 (o.map Aq.av).length))),pP 1001 (.row 3 (o.map Aq.av))])) ?_ (8,0);refine gW (Wk.rk (k:=1001) (d:=900) rfl rfl) ?_;refine gR ?_;rw[ab6 hE,ab6 hE,ab3];exact aC.keep (mD rfl rfl)
 have hE:=dD y;refine gW (Wk.of (sl:=[pP 0 (.ptr 1000 0),pP 3 (.ptr 3 0),pP 5 (i64 a.ms.length),pP 6 (.ptr 6 0),pP 7 (.lst 3 (S.map Sv.av))]) (hp:=[pP 3 (.box a.cs),pP 6 (.box g.av.cells),pP 1000 (.box (fI l xs G fo caps sg (.ms 1001 3 0 ((o++[]).map Aq.av).length))),pP 1001 (.row 3 ((o++[]).map Aq.av))]) bb (.k (.k (.cons rfl (BlkSub.bL (.cons (.refl _) (.cons (.refl _) (.cons (.refl _) (.cons (.refl _) (.cons (.refl _) (.cons (.refl _) (.cons (.refl _) (.cons (.refl _) (.cons (Sub.of (by simp)) .nil))))))))) rfl) (.cons rfl (BlkSub.of (by rw[ab3])) .nil))))) ?_ (77777,0)
 refine gW (Wk.rk (k:=1001) (d:=901) rfl rfl) ?_;refine gl ?_;refine hO [0,3,5,6,56,57] [3,6] (fun(i:Nat)(c:List Aq)=>[pP 58 (i64 i)]) (fun _ c=>[pP 1000 (.box (fI l xs G fo caps sg (.ms 901 3 0 ((o++c).map Aq.av).length))),pP 901 (.row 3 ((o++c).map Aq.av))]) (fun i c=>rH F sg f S i c/\c.length<=i*M) (fun i _=>S.length-i) 0 ([]) ⟨QD F sg f S,aa0 _⟩ ?_;rintro i c ⟨hfo,hcl⟩ K1 J1;refine gC (fun y=>?_) (fun y=>?_) (st2:=(19,0))
 ·have hin:=a9 y;obtain⟨s,hs⟩:=ay hin;have hsm:=aap hs;have hfl:=hM s hsm;have hmul:(i+1)*M=i*M+M:=YT i M;have hmul2:(i+1)*M<=S.length*M:=abh M hin;refine gi (aH hs) ?_;refine gc (hF s.mode) ?_;refine gD ?_;refine gC (fun y=>?_) (fun y=>?_) (st2:=(77777,0))
  ·have hFm : F s.mode = false := by simpa using y
   refine ga aS ?_;exact gk J1 (i+1) c ⟨RU hfo hs hFm,by omega⟩
  have hFm:F s.mode=true:=by simpa using y
  refine gW (Wk.o (sl:=[pP 0 (.ptr 1000 0),pP 3 (.ptr 3 0),pP 5 (i64 a.ms.length),pP 6 (.ptr 6 0),pP 10 (.ptr 10 0),pP 56 (.lst 3 (S.map Sv.av)),pP 57 (i64 S.length),pP 58 (i64 i)]) (hp:=[pP 3 (.box a.cs),pP 6 (.box g.av.cells),pP 10 (.box s.av.cells),pP 1000 (.box (fI l xs G fo caps sg (.ms 901 3 0 ((o++c).map Aq.av).length))),pP 901 (.row 3 ((o++c).map Aq.av))])) ?_
  refine gc (hb s hsm) ?_;refine gt (aE (KY (ih (o++c) (by rw[abi];omega) s hsm)) (bC rfl rfl) aG rfl rfl) ?_;refine gC (fun y=>?_) (fun y=>?_)
  ·have he:(f s).2≠0:=dH y;have hR:=La hfo hs hFm he;refine gR ?_;rw[ab5 oz,ab5 oz,hR,<- abu];exact aC.keep (mD rfl rfl)
  have he:(f s).2=0:=dD y;refine gC (fun y=>?_) (fun y=>?_) (st2:=(77777,0))
  ·have h1 : sg = true := by simpa using y
   have hR:=Rf hfo hs hFm he h1;refine gR ?_;rw[ab5 oz,ab5 oz,hR,<- abu];exact aC.keep (mD rfl rfl)
  have h1:sg=false:=by simpa using y
  refine gW (Wk.of (sl:=[pP 0 (.ptr 1000 0),pP 3 (.ptr 3 0),pP 5 (i64 a.ms.length),pP 6 (.ptr 6 0),pP 56 (.lst 3 (S.map Sv.av)),pP 57 (i64 S.length),pP 58 (i64 i)]) (hp:=[pP 3 (.box a.cs),pP 6 (.box g.av.cells),pP 1000 (.box (fI l xs G fo caps sg (.ms 900 3 0 ((o++(c++(f s).1)).map Aq.av).length))),pP 900 (.row 3 ((o++(c++(f s).1)).map Aq.av))]) bb (.k (.k (.cons rfl (BlkSub.bL (.cons (.refl _) (.cons (.refl _) (.cons (.refl _) (.cons (.refl _) (.cons (.refl _) (.cons (.refl _) (.cons (.refl _) (.cons (.refl _) (.cons (Sub.of (by rw[abu])) .nil))))))))) rfl) (.cons rfl (BlkSub.of (by rw[abu])) .nil))))) ?_ (77777,0)
  refine gW (Wk.rk (k:=900) (d:=901) rfl rfl) ?_;refine ga aS ?_;exact gk J1 (i+1) (c++(f s).1) ⟨Xp hfo hs hFm he h1,by rw[abi];omega⟩
 have hin:=bn hfo.1 y;subst hin;have hR:=Xf hfo;refine gW (Wk.o (sl:=[]) (hp:=[pP 1000 (.box (fI l xs G fo caps sg (.ms 901 3 0 ((o++c).map Aq.av).length))),pP 901 (.row 3 ((o++c).map Aq.av))])) ?_ (19,0);refine gW (Wk.rk (k:=901) (d:=900) rfl rfl) ?_;refine gR ?_;rw[ab5 oz,ab5 oz,hR];exact aC.keep (mD rfl rfl)
variable{P:aci}{N:Nat}{R:Array Oper}{s:AS}{pos:String}{after:Array Edge}
end Go.Lw
namespace Go.Lw
open Go.Proofs
theorem r7(i:Int)(n:Nat):FP 166 [i64 i,i64 n] (bl (bA i n)):=by
 refine aj func166 ?_;refine ah ?_;exact acd bl (DA i n)
theorem W7(p q:Mk)(hp:p.ok)(hq:q.ok):FP 167 [p.av,q.av] (bl (decide (p.x.q=q.x.q/\p.y.q=q.y.q))):=by
 refine aj func167 ?_;refine gc (Es p.x q.x hp.x hq.x ((hp.qx.sub hq.qx).qs oz)) ?_;refine b8 (fun _=>(Es p.y q.y hp.y hq.y ((hp.qy.sub hq.qy).qs oz))) ?_;refine ah ?_;exact acd bl QS
theorem QM(b:Bd)(hbo:b.ok):FP 165 [b.av] (i64 (if 8<b.pts.length then 4 else fC b.pts.length (eH b.pts):Nat)):=by
 have hll:=hbo.ll;refine aj func165 ?_;refine gl ?_;refine gC (fun z=>?_) (fun z=>?_)
 ·have h0:8<b.pts.length:=jX z;refine ah ?_;rw[ab6 h0];rfl
 have h0:b.pts.length<=8:=iz z;have e0:(if 8<b.pts.length then 4 else fC b.pts.length (eH b.pts):Nat)=fC b.pts.length (eH b.pts):=ab5 oz;refine aW [1] [1] (fun(p:Nat)=>[pP 3 (i64 p)]) (fun _=>[]) (fun p=>p<=b.pts.length/\∀j,j<p->eH b.pts j=0) (fun p=>b.pts.length-p) 0 ⟨aa0 _,fun j h=>by omega⟩ ?_;rintro p ⟨hp,hpj⟩ K1 J1;refine gl ?_;refine gC (fun z=>?_) (fun z=>?_)
 ·have hpn:=a9 z;obtain⟨m,hm⟩:=ay hpn;have hmd:b.pts.getD p default=m:=aq hm;have hmm:=aap hm;have hmdup:=oi Mk.name hm;have hmo:=hbo.pts m hmm;refine gi (aH hm) ?_;refine gc (si m.name (hbo.names m hmm)) ?_;refine gC (fun z=>?_) (fun z=>?_)
  ·have h4:=dl z;have e2:eH b.pts p = 5:=by unfold eH; rw [hmd,ab6 h4]
   refine ah ?_;rw[e0,eD hpn hpj (by rw[e2];decide),e2];rfl
  have h4:=du z;refine aW [1,3,4] [1,4] (fun(q:Nat)=>[pP 5 (i64 q)]) (fun _=>[]) (fun q=>q<=p/\(b.pts.take q).any (fun y=>dT y.name m.name)=false) (fun q=>p-q) 0 ⟨aa0 _,rfl⟩ ?_;rintro q ⟨hq,hqd⟩ K2 J2;refine gC (fun z=>?_) (fun z=>?_)
  ·have hqn:=a9 z;obtain⟨y,hy⟩:∃y,b.pts[q]?=some y:=ay oz;refine gi (aH hy) ?_;refine gD ?_;refine gC (fun z=>?_) (fun z=>?_)
   ·have h5:dT y.name m.name = true:=z;have e2:eH b.pts p = 6:=by unfold eH; rw [hmd,ab5 (by rw [h4]; decide),ab6 (by rw [hmdup]; exact lN hy hqn h5)]
    refine ah ?_;rw[e0,eD hpn hpj (by rw[e2];decide),e2];rfl
   have h5:dT y.name m.name=false:=z;refine ga aS ?_;exact aR J2 (q+1) ⟨hqn,kQ hy hqd h5⟩
  have hqn:=bn hq z;subst hqn;have hmnd:¬gU (b.pts.map Mk.name) q=true:=by rw[hmdup,hqd];decide
  refine gc (xc m.x hmo.x) ?_;refine b8 (fun _=>(xc m.y hmo.y)) ?_;refine gC (fun z=>?_) (fun z=>?_)
  ·have h6:=pa z;have e2:eH b.pts q = 3:=by unfold eH; rw [hmd,ab5 (by rw [h4]; decide),ab5 hmnd,ab5 (by rintro ⟨g1,g2⟩; rcases h6 with g | g; (rw [g1] at g; cases g); (rw [g2] at g; cases g))]
   refine ah ?_;rw[e0,eD hpn hpj (by rw[e2];decide),e2];rfl
  have h6:=pL z;have e2:eH b.pts q=0:=by unfold eH;rw[hmd,ab5 (by rw[h4];decide),ab5 hmnd,ab6 h6]
  refine ga aS ?_;exact aR J1 (q+1) ⟨hpn,fun j h9=>by rcases aay j q with g |g;exact hpj j g;(have:j=q:=by omega);subst this;exact e2⟩
 have hpn:=bn hp z;subst hpn;refine ah ?_;rw[e0,mR hpj];rfl
theorem Lp(l:Li)(hl:l.ok):FP 72 [l.av] (i64 (iH l)):=by
 have hlb:=hl.lb;have e0:iH l=fC l.bo.length (eO l.bo):=rfl;refine aj func72 ?_;refine aW [1] [1] (fun(i:Nat)=>[pP 3 (i64 i)]) (fun _=>[]) (fun i=>i<=l.bo.length/\∀j,j<i->eO l.bo j=0) (fun i=>l.bo.length-i) 0 ⟨aa0 _,fun j h=>by omega⟩ ?_;rintro i ⟨hi,hj⟩ K1 J1;refine gl ?_;refine gC (fun z=>?_) (fun z=>?_)
 ·have hin:=a9 z;obtain⟨b,hb⟩:=ay hin;have hbd:l.bo.getD i default=b:=aq hb;have hbo:=hl.bo b (aap hb);have hbdup:=oi Bd.name hb;refine gi (aH hb) ?_;refine gc (si b.name hbo.name) ?_;refine gC (fun z=>?_) (fun z=>?_)
  ·have h1:=dl z;have e1:eO l.bo i = 5:=by unfold eO; rw [hbd,ab6 h1]
   refine ah ?_;rw[e0,eD hin hj (by rw[e1];decide),e1];rfl
  have h1:=du z;refine aW [1,3] [1] (fun(k:Nat)=>[pP 4 (i64 k)]) (fun _=>[]) (fun k=>k<=i/\(l.bo.take k).any (fun y=>dT y.name b.name)=false) (fun k=>i-k) 0 ⟨aa0 _,rfl⟩ ?_;rintro k ⟨hk,hd⟩ K2 J2;refine gC (fun z=>?_) (fun z=>?_)
  ·have hkn:=a9 z;obtain⟨y,hy⟩:∃y,l.bo[k]?=some y:=ay oz;refine gi (aH hy) ?_;refine gi (aH hb) ?_;refine gD ?_;refine gC (fun z=>?_) (fun z=>?_)
   ·have h2:dT y.name b.name = true:=z;have e1:eO l.bo i = 6:=by unfold eO; rw [hbd,ab5 (by rw [h1]; decide),ab6 (by rw [hbdup]; exact lN hy hkn h2)]
    refine ah ?_;rw[e0,eD hin hj (by rw[e1];decide),e1];rfl
   have h2:dT y.name b.name=false:=z;refine ga aS ?_;exact aR J2 (k+1) ⟨hkn,kQ hy hd h2⟩
  have hkn:=bn hk z;subst hkn;have hnd:¬gU (l.bo.map Bd.name) k=true:=by rw[hbdup,hd];decide
  have e1:eO l.bo k=if 8<b.pts.length then 4 else fC b.pts.length (eH b.pts):=by unfold eO;rw[hbd,ab5 (by rw[h1];decide),ab5 hnd]
  refine gi (aH hb) ?_;refine gc (QM b hbo) ?_;refine gC (fun z=>?_) (fun z=>?_)
  ·have h3:=km z;refine ah ?_;rw[e0,eD hin hj (by rw[e1];exact h3),e1]
  have h3:=jW z;refine ga aS ?_;exact aR J1 (k+1) ⟨hin,fun j h9=>by rcases aay j k with g |g;exact hj j g;(have:j=k:=by omega);subst this;exact e1.trans h3⟩
 have hin:=bn hi z;subst hin;refine ah ?_;rw[e0,mR hj];rfl
theorem RA(l:Li)(hl:l.ok)(i:Nat)(hi:i<l.jo.length)(h16:l.jo.length<=16):FP 73 [l.av,i64 i] (i64 (gB l i)):=by
 obtain⟨j,hjj⟩:=ay hi;have hbd:l.jo.getD i default=j:=aq hjj;have hbdup:=oi Jt.name hjj;refine aj func73 ?_;refine gi (aH hjj) ?_;refine gc (si j.name (hl.jnames j (aap hjj))) ?_;refine gC (fun z=>?_) (fun z=>?_)
 ·have h0:=dl z;refine ah ?_;unfold gB;rw[hbd,ab6 h0];rfl
 have h0:=du z;refine aW [1,2,5] [2,5] (fun(k:Nat)=>[pP 6 (i64 k)]) (fun _=>[]) (fun k=>k<=i/\(l.jo.take k).any (fun y=>dT y.name j.name)=false) (fun k=>i-k) 0 ⟨aa0 _,rfl⟩ ?_;rintro k ⟨hk,hd⟩ K1 J1;refine gC (fun z=>?_) (fun z=>?_)
 ·have hkn:=a9 z;obtain⟨y,hy⟩:∃y,l.jo[k]?=some y:=ay oz;refine gi (aH hy) ?_;refine gD ?_;refine gC (fun z=>?_) (fun z=>?_)
  ·have h2:dT y.name j.name=true:=z;refine ah ?_;unfold gB;rw[hbd,ab5 (by rw[h0];decide),ab6 (by rw[hbdup];exact lN hy hkn h2)];rfl
  have h2:dT y.name j.name=false:=z;refine ga aS ?_;exact aR J1 (k+1) ⟨hkn,kQ hy hd h2⟩
 have hkn:=bn hk z;subst hkn;have hnd:¬gU (l.jo.map Jt.name) k=true:=by rw[hbdup,hd];decide
 have e1:gB l k=eM l j:=by unfold gB;rw[hbd,ab5 (by rw[h0];decide),ab5 hnd]
 refine gC (fun z=>?_) (fun z=>?_)
 ·have h1:=Em z;refine ah ?_;rw[e1];unfold eM;rw[ab6 h1];rfl
 have h1:=Hy z;refine gl ?_;refine gc (r7 j.a l.bo.length) ?_;refine cJ ?_;refine b8 (fun _=>(r7 j.b l.bo.length)) ?_;refine gC (fun z=>?_) (fun z=>?_)
 ·have h2:=pa z;refine ah ?_;rw[e1];unfold eM;rw[ab5 h1,ab6 h2];rfl
 have h2:=pL z;have h2n:¬(bA j.a l.bo.length=false\/bA j.b l.bo.length=false):=by rw[h2.1,h2.2];simp
 obtain⟨A,hA,pA,mA,zA0⟩:=q9 h2.1;obtain⟨B,hB,pB,mB,zB0⟩:=q9 h2.2;refine gC (fun z=>?_) (fun z=>?_)
 ·have h3:=cM z;refine ah ?_;rw[e1];unfold eM;rw[ab5 h1,ab5 h2n,ab6 h3];rfl
 have h3:=dk z;refine gi (aH hA) ?_;refine gi (aH hB) ?_;refine gD ?_;refine gl ?_;refine gc (r7 j.point A.pts.length) ?_;refine cJ ?_;refine b8 (fun _=>(r7 j.on B.pts.length)) ?_;refine gC (fun z=>?_) (fun z=>?_)
 ·have h4:=pa z;refine ah ?_;rw[e1];unfold eM;rw[ab5 h1,ab5 h2n,ab5 h3,pA,pB,ab6 h4];rfl
 have h4:=pL z;have h4n:¬(bA j.point A.pts.length=false\/bA j.on B.pts.length=false):=by rw[h4.1,h4.2];simp
 refine gC (fun z=>?_) (fun z=>?_)
 ·have h5:=cM z;refine gC (fun z=>?_) (fun z=>?_)
  ·have h6:=nW z;refine ah ?_;rw[e1];unfold eM;rw[ab5 h1,ab5 h2n,ab5 h3,pA,pB,ab5 h4n,ab6 h5,ab6 h6];rfl
  have h6:=s8 z;refine ah ?_;rw[e1];unfold eM;rw[ab5 h1,ab5 h2n,ab5 h3,pA,pB,ab5 h4n,ab6 h5,ab5 (by rw[h6];simp)];rfl
 have h5:=dk z;refine gl ?_;refine gc (r7 j.to B.pts.length) ?_;refine gC (fun z=>?_) (fun z=>?_)
 ·have h6:=dl z;refine ah ?_;rw[e1];unfold eM;rw[ab5 h1,ab5 h2n,ab5 h3,pA,pB,ab5 h4n,ab5 h5,ab6 h6];rfl
 have h6:=du z;obtain⟨m1,g1,d1,mm1,z1⟩:=ta h4.2;obtain⟨m2,g2,d2,mm2,z2⟩:=ta h6;have mo1:=(hl.bo B mB).pts m1 mm1;have mo2:=(hl.bo B mB).pts m2 mm2;refine gi (aH g1) ?_;refine gi (aH g2) ?_;refine gc (W7 m1 m2 mo1 mo2) ?_;refine gD ?_;refine gC (fun z=>?_) (fun z=>?_)
 ·have h7:=ab8 z;refine ah ?_;rw[e1];unfold eM;rw[ab5 h1,ab5 h2n,ab5 h3,pA,pB,ab5 h4n,ab5 h5,ab5 (by rw[h6];decide),d1,d2,ab6 h7];rfl
 have h7:=ab9 z;refine ah ?_;rw[e1];unfold eM;rw[ab5 h1,ab5 h2n,ab5 h3,pA,pB,ab5 h4n,ab5 h5,ab5 (by rw[h6];decide),d1,d2,ab5 h7];rfl
theorem RW(l:Li)(hl:l.ok)(i:Nat)(hi:i<l.dv.length)(h2l:l.dv.length<=2):FP 74 [l.av,i64 i] (i64 (d9 l i)):=by
 obtain⟨b,hb⟩:=ay hi;have hbd:l.dv.getD i default=b:=aq hb;have hbdup:=oi Dr.name hb;refine aj func74 ?_;refine gi (aH hb) ?_;refine gc (si b.name (hl.dnames b (aap hb))) ?_;refine gC (fun z=>?_) (fun z=>?_)
 ·have h1:=dl z;refine ah ?_;unfold d9;rw[hbd,ab6 h1];rfl
 have h1:=du z;refine aW [1,2,5] [2,5] (fun(k:Nat)=>[pP 6 (i64 k)]) (fun _=>[]) (fun k=>k<=i/\(l.dv.take k).any (fun y=>dT y.name b.name)=false) (fun k=>i-k) 0 ⟨aa0 _,rfl⟩ ?_;rintro k ⟨hk,hd⟩ K1 J1;refine gC (fun z=>?_) (fun z=>?_)
 ·have hkn:=a9 z;obtain⟨y,hy⟩:∃y,l.dv[k]?=some y:=ay oz;refine gi (aH hy) ?_;refine gD ?_;refine gC (fun z=>?_) (fun z=>?_)
  ·have h2:dT y.name b.name=true:=z;refine ah ?_;unfold d9;rw[hbd,ab5 (by rw[h1];decide),ab6 (by rw[hbdup];exact lN hy hkn h2)];rfl
  have h2:dT y.name b.name=false:=z;refine ga aS ?_;exact aR J1 (k+1) ⟨hkn,kQ hy hd h2⟩
 have hkn:=bn hk z;subst hkn;have hnd:¬gU (l.dv.map Dr.name) k=true:=by rw[hbdup,hd];decide
 refine gl ?_;refine gc (r7 b.body l.bo.length) ?_;refine gC (fun z=>?_) (fun z=>?_)
 ·have h3:=dl z;refine ah ?_;unfold d9;rw[hbd,ab5 (by rw[h1];decide),ab5 hnd,ab6 h3];rfl
 have h3:=du z;refine gC (fun z=>?_) (fun z=>?_)
 ·have h4:=cM z;refine ah ?_;unfold d9;rw[hbd,ab5 (by rw[h1];decide),ab5 hnd,ab5 (by rw[h3];decide),ab6 h4];rfl
 have h4:=dk z;have e1:d9 l k=if(l.dv.take k).any (fun d=>decide (d.body=b.body))=true then 6 else 0:=by unfold d9;rw[hbd,ab5 (by rw[h1];decide),ab5 hnd,ab5 (by rw[h3];decide),ab5 h4]
 refine aW [1,2,5] [2,5] (fun(q:Nat)=>[pP 7 (i64 q)]) (fun _=>[]) (fun q=>q<=k/\(l.dv.take q).any (fun d=>decide (d.body=b.body))=false) (fun q=>k-q) 0 ⟨aa0 _,rfl⟩ ?_;rintro q ⟨hq,hqd⟩ K2 J2;refine gC (fun z=>?_) (fun z=>?_)
 ·have hqn:=a9 z;obtain⟨y,hy⟩:∃y,l.dv[q]?=some y:=ay oz;refine gi (aH hy) ?_;refine gD ?_;refine gC (fun z=>?_) (fun z=>?_)
  ·have h5:decide (y.body=b.body)=true:=aca (cM z);refine ah ?_;rw[e1,ab6 (lN hy hqn h5)];rfl
  have h5:decide (y.body=b.body)=false:=acb (dk z);refine ga aS ?_;exact aR J2 (q+1) ⟨hqn,kQ hy hqd h5⟩
 have hqn:=bn hq z;subst hqn;refine ah ?_;rw[e1,hqd];rfl
theorem Dt(l:Li)(hl:l.ok):FP 19 [l.av] (i64 (aN l)):=by
 have hlb:=hl.lb;refine aj func19 ?_;refine gc (si l.name hl.name) ?_;refine gC (fun z=>?_) (fun z=>?_)
 ·have h1:=dl z;refine ah ?_;unfold aN;rw[ab6 h1];rfl
 have h1:=du z;refine gl ?_;refine gC (fun z=>?_) (fun z=>?_)
 ·have h2:=Jr z;refine ah ?_;unfold aN;rw[ab5 (by rw[h1];decide),ab6 h2];rfl
 have h2:=Eh z;refine gl ?_;refine gC (fun z=>?_) (fun z=>?_)
 ·have h3:8<l.bo.length:=jX z;refine ah ?_;unfold aN;rw[ab5 (by rw[h1];decide),ab5 h2,ab6 h3];rfl
 have h3:l.bo.length<=8:=iz z;have e0:aN l=if iH l≠0 then iH l else if fg l≠0 then fg l else ic l:=by unfold aN;rw[ab5 (by rw[h1];decide),ab5 h2,ab5 oz]
 refine gc (Lp l hl) ?_;refine gC (fun z=>?_) (fun z=>?_)
 ·have h4:iH l≠0:=km z;refine ah ?_;rw[e0,ab6 h4]
 have h4:iH l=0:=jW z;refine gl ?_;refine gC (fun z=>?_) (fun z=>?_)
 ·have h5:16 < l.jo.length:=jX z;have ej:fg l = 4:=by unfold fg; rw [ab6 h5]
  refine ah ?_;rw[e0,ab5 (by rw[h4];simp),ab6 (by rw[ej];decide),ej];rfl
 have h5:l.jo.length<=16:=iz z;have ej:fg l=fC l.jo.length (gB l):=by unfold fg;rw[ab5 oz]
 refine aW [1] [1] (fun(i:Nat)=>[pP 4 (i64 i)]) (fun _=>[]) (fun i=>i<=l.jo.length/\∀j,j<i->gB l j=0) (fun i=>l.jo.length-i) 0 ⟨aa0 _,fun j h=>by omega⟩ ?_;rintro i ⟨hi,hj⟩ K1 J1;refine gl ?_;refine gC (fun z=>?_) (fun z=>?_)
 ·have hin:=a9 z;refine gc (RA l hl i hin h5) ?_;refine gC (fun z=>?_) (fun z=>?_)
  ·have h6:=km z;refine ah ?_;rw[e0,ab5 (by rw[h4];simp),ab6 (by rw[ej,eD hin hj h6];exact h6),ej,eD hin hj h6]
  have h6:=jW z;refine ga aS ?_;exact aR J1 (i+1) ⟨hin,fun j h9=>by rcases aay j i with g |g;exact hj j g;(have:j=i:=by omega);subst this;exact h6⟩
 have hin:=bn hi z;subst hin;have ejz:fg l=0:=ej.trans (mR hj);have e0':aN l=ic l:=by rw[e0,ab5 (by rw[h4];simp),ab5 (by rw[ejz];simp)]
 refine gl ?_;refine gC (fun z=>?_) (fun z=>?_)
 ·have h6:2<l.dv.length:=jX z;refine ah ?_;rw[e0'];unfold ic;rw[ab6 h6];rfl
 have h6:l.dv.length<=2:=iz z;have ed:ic l=fC l.dv.length (d9 l):=by unfold ic;rw[ab5 oz]
 refine aW [1] [1] (fun(k:Nat)=>[pP 6 (i64 k)]) (fun _=>[]) (fun k=>k<=l.dv.length/\∀j,j<k->d9 l j=0) (fun k=>l.dv.length-k) 0 ⟨aa0 _,fun j h=>by omega⟩ ?_;rintro k ⟨hk,hkj⟩ K2 J2;refine gl ?_;refine gC (fun z=>?_) (fun z=>?_)
 ·have hkn:=a9 z;refine gc (RW l hl k hkn h6) ?_;refine gC (fun z=>?_) (fun z=>?_)
  ·have h7:=km z;refine ah ?_;rw[e0',ed,eD hkn hkj h7]
  have h7:=jW z;refine ga aS ?_;exact aR J2 (k+1) ⟨hkn,fun j h9=>by rcases aay j k with g |g;exact hkj j g;(have:j=k:=by omega);subst this;exact h7⟩
 have hkn:=bn hk z;subst hkn;refine ah ?_;rw[e0',ed,mR hkj];rfl
end Go.Lw
