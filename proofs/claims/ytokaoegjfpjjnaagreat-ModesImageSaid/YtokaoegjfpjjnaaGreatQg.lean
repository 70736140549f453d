/- ModesImage: for any linkage and any turns the law returns true and leaves its arguments as they were. No other condition. Part 7 of 8: what the later parts need -/
import Derived.Test.YtokaoegjfpjjnaaGreatQf
set_option linter.unusedVariables false
open List (nil_append append_nil map_nil map_take map_map map_id range_succ)
open List renaming mem_of_getElem? → apo, mem_cons_of_mem → aqq, mem_append → ap2, map_cons → aq2, mem_cons → aqf, length_cons → ap4, foldl_cons → aq5, mem_cons_self → aqr, length_append → aqk, length_nil → ap9, getD_eq_getElem?_getD → apq, getElem?_take → aqh, getElem?_map → apv, append_assoc → aqt, getElem?_eq_getElem → aps, getElem?_replicate → aql, map_append → ap8, length_take → ap7, take_of_length_le → aqa, drop_zero → aq1, take_length → ap5, not_mem_nil → aqg, length_map → apr, getElem?_of_mem → aqx, mem_of_mem_take → aqw, map_congr_left → aqz, map_replicate → aqu, map_set → aq0, length_set → aq4, any_eq_true → am7, mem_singleton → am8, replicate → ana, drop_length → anh, drop_eq_getElem_cons → ani, mem_or_eq_of_mem_set → ank, getElem_mem → anm, cons_append → ans, countP_cons → anv, mem_map → anx, getElem?_eq_some_iff → anz, countP_cons_of_pos → an0, mem_range → an2, mem_replicate → an5, contains_iff_mem → an8
open Nat renaming eq_of_beq_eq_true → apy, le_refl → apu, lt_or_ge → apz, le_trans → aqe, mul_le_mul_right → aqi, zero_le → apx, pow_add → aqs, beq_refl → alv, blt → aly, mul_le_mul → alz, pow_pos → al7, mul_pos → aml, pow_succ → amp, beq → amq, zero_add → ams, pow_lt_pow_right → am0, add_sub_cancel → am1, succ_mul → am5
open Option renaming map_eq_some_iff → apt
open Bool renaming and_eq_true → apw, or_eq_true → aqy, eq_false_iff → aou, not_eq_false' → aow, false_eq_true → aoz, and_false → ao1
open Int renaming toNat_natCast → aqo, natAbs_mul → an9
open Rat renaming div_def → aon, intCast_mul → aor
open Decidable renaming not_not → apn
open Go renaming Operand → arg, TypeId → ari, Program → arj
open Go.Proofs.Tryz
namespace Go.Lw
open Go.Proofs
theorem NO{ts:LL}{r e:Nat}(tw:Tw ts r){a b c:List Rat}(ha:Nm ts.length e a)(hb:Nm ts.length e b)(hc:Nm ts.length e c)(he:2*(e+e+kB r ts.length)<=lm ts.length) :
  FP 382 [aZ ts,nA a,aR b c] (.tup [aR (sh ts.length (T.mul (aw ts) ts.length (af ts.length a) (af ts.length b))) (sh ts.length (T.mul (aw ts) ts.length (af ts.length a) (af ts.length c))),.v .nilIface]):=by
 refine ai func382 ?_;refine gc (BK (e:=e) tw [a,b,c] (by simp only[aqf,aqg,or_false];rintro x (rfl |rfl |rfl) <;> assumption) oz (by simp)) ?_;refine gf ?_;refine gt (aK (Con.rB 24 rfl rfl rfl rfl (pS tw ha hb oz)) (aO rfl rfl rfl) aL rfl rfl) ?_;refine gt (aK (Con.rB 24 rfl rfl rfl rfl (pS tw ha hc oz)) (aO rfl rfl rfl) aL rfl rfl) ?_;refine gt (aK (Con.rB 24 rfl rfl rfl rfl (C2 _ _ _)) (bO rfl rfl) aL rfl rfl) ?_;refine gD ?_;refine bK ?_;rfl
section
variable{ts:LL}
def wO(q w1 w2 h:Et ts):Et ts:=q*w1-h*-w2
def vz(q w1 w2 h:Et ts):Et ts:=q*w2-h*w1
def mL(ts:LL)(q h d:List Rat)(w:List Rat×List Rat):P2 ts:=(wO (dE ts q) (dE ts w.1) (dE ts w.2) (dE ts h)*iE (dE ts d),vz (dE ts q) (dE ts w.1) (dE ts w.2) (dE ts h)*iE (dE ts d))
structure Rp where
  v:Rat×Rat
  p:Rat×Rat
  a:List Rat×List Rat
  h:List Rat
  d:List Rat
  w:List Rat×List Rat
def pO(ts:LL)(R:Rp)(q:List Rat):Pq:=gM R.v (mL ts q R.h R.d R.w) R.p (dE ts R.a.1,dE ts R.a.2)
structure RqP(ts:LL)(R:Rp)(q:List Rat):Prop where
  sm:Sm 3000 R.v
  sp:Sm 3000 R.p
  c1:FP 382 [aZ ts,nA q,aR R.w.1 R.w.2] (.tup [aR (sX (dE ts q*dE ts R.w.1)) (sX (dE ts q*dE ts R.w.2)),.v .nilIface])
  ng:FP 128 [aZ ts,nA R.w.2] (.tup [nA (sX (-dE ts R.w.2)),.v .nilIface])
  c2:FP 382 [aZ ts,nA R.h,aR (sX (-dE ts R.w.2)) R.w.1] (.tup [aR (sX (dE ts R.h*-dE ts R.w.2)) (sX (dE ts R.h*dE ts R.w.1)),.v .nilIface])
  sb:FP 98 [aZ ts,aR (sX (dE ts q*dE ts R.w.1)) (sX (dE ts q*dE ts R.w.2)),aR (sX (dE ts R.h*-dE ts R.w.2)) (sX (dE ts R.h*dE ts R.w.1))] (.tup [aR (sX (wO (dE ts q) (dE ts R.w.1) (dE ts R.w.2) (dE ts R.h))) (sX (vz (dE ts q) (dE ts R.w.1) (dE ts R.w.2) (dE ts R.h))),.v .nilIface])
  d1:FP 350 [aZ ts,nA (sX (wO (dE ts q) (dE ts R.w.1) (dE ts R.w.2) (dE ts R.h))),nA R.d] (.tup [nA (sX (mL ts q R.h R.d R.w).1),.v .nilIface])
  d2:FP 350 [aZ ts,nA (sX (vz (dE ts q) (dE ts R.w.1) (dE ts R.w.2) (dE ts R.h))),nA R.d] (.tup [nA (sX (mL ts q R.h R.d R.w).2),.v .nilIface])
  e1:sX (dE ts R.a.1)=R.a.1
  e2:sX (dE ts R.a.2)=R.a.2
  b:BdP ts R.v (mL ts q R.h R.d R.w) R.p (dE ts R.a.1,dE ts R.a.2)
theorem RqP.body{R:Rp}{q:List Rat}(H:RqP ts R q) :
  Con prog 374 [.ptr 1000 0,qP R.v,eU (mL ts q R.h R.d R.w).l,qP R.p,aR R.a.1 R.a.2] [pP 1000 (br ts)] (pO ts R q).av [pP 1000 (br ts)]:=by
 have hb:=GP H.sm H.sp H.b
 have e:eU (P2.l ((dE ts R.a.1,dE ts R.a.2):P2 ts))=aR R.a.1 R.a.2:=by
  show aR (sX (dE ts R.a.1)) (sX (dE ts R.a.2))=_;rw[H.e1,H.e2]
 rw[e]at hb;exact hb
theorem L7{R:Rp}{q:List Rat}{j:Nat}(cy:Cy ts 773000000 1101400000)(sm:Sm 3000 R.v)(sp:Sm 3000 R.p)(h0:cr R.v R.v≠0)(nq:Nm ts.length 773000000 q)(nh:Nm ts.length 773000000 R.h)(nd:Nm ts.length 773000000 R.d)
  (n1:Nm ts.length 773000000 R.w.1) (n2:Nm ts.length 773000000 R.w.2) (a1:Nm ts.length 773000000 R.a.1) (a2:Nm ts.length 773000000 R.a.2) (e1:sX (dE ts R.a.1)=R.a.1) (e2:sX (dE ts R.a.2)=R.a.2)
  (nj:Nl j R.d) (hj:j<=ts.length) (xg:j<=1) (hd:ao (dE ts R.d)≠0):RqP ts R q:=by
 obtain⟨r,tw,hk⟩:=cy.ex;have hl:=cy.lm;haveI:=cy;haveI zq:Zl ts 773000000 1101400000 q (dE ts q) 1 0:=Zl.at nq (apu _);haveI zh:Zl ts 773000000 1101400000 R.h (dE ts R.h) 1 0:=Zl.at nh (apu _);haveI zd:Zl ts 773000000 1101400000 R.d (dE ts R.d) 1 0:=Zl.at nd (apu _);haveI z1:Zl ts 773000000 1101400000 R.w.1 (dE ts R.w.1) 1 0:=Zl.at n1 (apu _);haveI z2:Zl ts 773000000 1101400000 R.w.2 (dE ts R.w.2) 1 0:=Zl.at n2 (apu _);haveI:=zq.zu;haveI:=zh.zu;haveI:=z1.zu;haveI:=z2.zu
 haveI zn:Zu 773000000 1101400000 (-dE ts R.w.2) 1 0:=arf;haveI y1:Zu 773000000 1101400000 (dE ts q*dE ts R.w.1) 2 1:=arf;haveI y2:Zu 773000000 1101400000 (dE ts q*dE ts R.w.2) 2 1:=arf;haveI y3:Zu 773000000 1101400000 (dE ts R.h*-dE ts R.w.2) 2 1:=arf;haveI y4:Zu 773000000 1101400000 (dE ts R.h*dE ts R.w.1) 2 1:=arf;haveI x1:Zu 773000000 1101400000 (wO (dE ts q) (dE ts R.w.1) (dE ts R.w.2) (dE ts R.h)) 4 3:=(arf:Zu 773000000 1101400000 (dE ts q*dE ts R.w.1-dE ts R.h*-dE ts R.w.2) 4 3)
 haveI x2:Zu 773000000 1101400000 (vz (dE ts q) (dE ts R.w.1) (dE ts R.w.2) (dE ts R.h)) 4 3:=(arf:Zu 773000000 1101400000 (dE ts q*dE ts R.w.2-dE ts R.h*dE ts R.w.1) 4 3)
 have ew:∀x:Et ts,af ts.length (sX x)=x:=fun x=>bu _ _
 have hkB:kB r ts.length<=1101400000:=hk;have c1:=NO tw nq n1 n2 (by rw[hl];omega);have ng:=OV (ts:=ts) (u:=773000000) (k:=1101400000) (a:=R.w.2) (by decide);have nn:Nm ts.length 773000000 (sX (-dE ts R.w.2)):=zn.nm.mono (by decide);have c2:=NO tw nh nn n1 (by rw[hl];omega);rw[ew]at c2;have sb:=FV (a:=sX (dE ts q*dE ts R.w.1)) (b:=sX (dE ts q*dE ts R.w.2)) (c:=sX (dE ts R.h*-dE ts R.w.2)) (d:=sX (dE ts R.h*dE ts R.w.1)) tw y1.nm y2.nm y3.nm y4.nm (by rw[hl];decide);rw[ew,ew,ew,ew]at sb;have d1:=vm (ts:=ts) (u:=773000000) (k:=1101400000) (a:=sX (wO (dE ts q) (dE ts R.w.1) (dE ts R.w.2) (dE ts R.h))) (b:=R.d) nj hj xg hd (by decide);have d2:=vm (ts:=ts) (u:=773000000) (k:=1101400000) (a:=sX (vz (dE ts q) (dE ts R.w.1) (dE ts R.w.2) (dE ts R.h))) (b:=R.d) nj hj xg hd (by decide);exact⟨sm,sp,c1,ng,c2,sb,d1.1,d2.1,e1,e2,P5 tw cy.two hkB sm sp h0 (d1.2.nm.mono (by decide)) (d2.2.nm.mono (by decide)) (by show Nm ts.length 773000000 (sX (dE ts R.a.1));rw[e1];exact a1) (by show Nm ts.length 773000000 (sX (dE ts R.a.2));rw[e2];exact a2)⟩
end
def j4(ts:LL)(R:Rp)(qs:LL)(i:Nat):Sv:=⟨ts,[pO ts R (qs.getD i [])],if qs.length=1 then 0 else 1-2*(i:Int)⟩
def oI(ts:LL)(R:Rp)(qs:LL)(n:Nat):List AV:=(List.range n).map fun i=>(j4 ts R qs i).av
theorem Fq(ts:LL)(R:Rp)(qs:LL)(n:Nat):(oI ts R qs n).length=n:=by simp[oI]
theorem U0(ts:LL)(R:Rp)(qs:LL)(n:Nat):oI ts R qs (n+1)=oI ts R qs n++[(j4 ts R qs n).av]:=by unfold oI;rw[range_succ];simp
def eT(l:Li)(a:As)(i:Int)(j0 j:Jt):Rp:=⟨cK l i j,am l j0 i,P2.l (aC l a j0 i),sh 0 (cH l i j0 j:Rat),sX (cO l a i j0 j),P2.l (cm l a i j0 j)⟩
def bE(l:Li)(a:As)(i:Int)(j0 j:Jt):Et (llq a.rs):=qE (jr l i j)*cO l a i j0 j-qE (cH l i j0 j)*qE (cH l i j0 j)
def lR(l:Li)(a:As)(i:Int)(j0 j:Jt):List AV×Nat :=
  if ao (cO l a i j0 j)=0/\ao (qE (cH l i j0 j):Et (llq a.rs))=0 then([],15)
  else if ao (bE l a i j0 j)<0 then([],0)
  else if 0<ao (bE l a i j0 j)then(oI (aW (llq a.rs) (sX (bE l a i j0 j))) (eT l a i j0 j) [dg (llq a.rs).length,sX (-bJ (bE l a i j0 j))] 2,0)
  else(oI (llq a.rs) (eT l a i j0 j) [[]] 1,0)
theorem xI{ts:LL}{r:Nat}(tw:Tw ts r){n d h:Et ts}(hs:¬ao (n*d-h*h)<0)(h1:¬(ao d=0/\ao h=0)):ao d≠0:=by
 intro h0;have S:=fZ (aw ts) ts.length tw.pos
 have e1:sg (aw ts) ts.length (n*d)=0:=by
  rw[S.mul];have:sg (aw ts) ts.length d=0:=h0;rw[this];exact Int.mul_zero _
 have e2:=S.zadd (y:=-(h*h)) e1;rw[show n*d+-(h*h)=n*d-h*h by grind,S.neg,S.mul]at e2;have e3:ao (n*d-h*h)=sg (aw ts) ts.length (n*d-h*h):=rfl;have e4:ao h=sg (aw ts) ts.length h:=rfl;have h2:sg (aw ts) ts.length h≠0:=fun h9=>h1 ⟨h0,by rw[e4];exact h9⟩
 rw[e3,e2]at hs;rcases S.cs h with g |g |g
 ·rw[g]at hs;exact hs (by decide)
 ·exact h2 g
 ·rw[g]at hs;exact hs (by decide)
theorem ad9{p q:Rat}(h:p*p+q*q=0):p=0/\q=0:=by
 have h1:=un p;have h2:=un q;have h3:p*p=0:=by grind
 have h4:q*q=0:=by grind
 exact⟨by rcases Rat.mul_eq_zero.1 h3 with g |g <;> exact g,by rcases Rat.mul_eq_zero.1 h4 with g |g <;> exact g⟩
theorem De{l:Li}(au:aG l=0){n:Nat}{j:Jt}(hj:l.jo[n]?=some j)(hk:j.kind≠0){i:Int}(hi:j.b=i):cr (cK l i j) (cK l i j)≠0:=by
 intro h0;obtain⟨h1,h2⟩:=ad9 h0;have h3:=L2 au hj;subst hi;have e1:(aX l j.b j.to).1-(aX l j.b j.on).1=0:=h1;have e2:(aX l j.b j.to).2-(aX l j.b j.on).2=0:=h2;have e3:((dm l j.b).getD j.on.toNat default).x.q=((dm l j.b).getD j.to.toNat default).x.q:=by unfold aX at e1;dsimp only at e1;grind
 have e4:((dm l j.b).getD j.on.toNat default).y.q=((dm l j.b).getD j.to.toNat default).y.q:=by unfold aX at e2;dsimp only at e2;grind
 unfold fy at h3;split at h3
 ·cases h3
 ·split at h3
  ·cases h3
  ·split at h3
   ·cases h3
   ·split at h3
    ·cases h3
    ·split at h3
     ·cases h3
     ·first |(rw[aq7 ⟨e3,e4⟩]at h3;cases h3) |(split at h3 <;> first |(cases h3;done) |(rename_i g;exact ard ⟨e3,e4⟩ g))
theorem afo:Sub (.lst 1 [nS]) (.lst 1 [nA []]):=by
 refine Sub.lst rfl (fun i x y hx hy=>?_)
 match i,hx,hy with
 |0,hx,hy =>
  cases hx;cases hy
  refine⟨rfl,fun j x y hx hy=>?_⟩
  match j,hx,hy with
  |0,hx,hy=>cases hx;cases hy;exact⟨rfl,.nil _ _ _⟩
theorem ae9{x y:Int}(h:cond (aa .eql x 0) (aa .eql y 0) false=true):x=0/\y=0:=by
 cases h1:aa .eql x 0
 ·rw[h1]at h;cases h
 ·rw[h1]at h;exact⟨dL h1,dL h⟩
theorem aed{x y:Int}(h:cond (aa .eql x 0) (aa .eql y 0) false=false):¬(x=0/\y=0):=by
 rintro⟨rfl,rfl⟩;cases h
structure RpF(l:Li)(a:As)(i:Int)(j0 j:Jt):Prop where
  hv:Sm 3000 (cK l i j)
  hp:Sm 3000 (am l j0 i)
  vv:cr (cK l i j) (cK l i j)≠0
  zl:Zl (llq a.rs) 310000 65000 (sh 0 (cH l i j0 j:Rat)) (qE (cH l i j0 j)) 3 0
  z3:Zu 310000 65000 (cO l a i j0 j) 320 327
  zX:Zu 310000 65000 (bE l a i j0 j) 976 989
  w1:Zu 310000 65000 (cm l a i j0 j).1 80 81
  w2:Zu 310000 65000 (cm l a i j0 j).2 80 81
  y1:Zu 310000 65000 (aC l a j0 i).1 40 40
  y2:Zu 310000 65000 (aC l a j0 i).2 40 40
theorem O3{l:Li}{a:As}(D:DyR l a)(hn:(llq a.rs).length<=1){g:Gr}{i z0 z1:Int}{j0 j:Jt}(P:SlP 3900000 l a g 3 i z0 z1 j0 j)(hj:j.b=i)(hb:Pd 3900000 a j.a):RpF l a i j0 j:=by
 haveI c:=D.s.ct D.hc;have ck:=c.k1;haveI cy:Cy (llq a.rs) 310000 65000:=⟨c.ex,c.k1,c.u3,by omega⟩
 have iI:Sm 1000 (am l j0 i):=ki D.hl D.li P.h0 P.p0.or;obtain⟨i1,i2,i3,i4,i5⟩:=ee D.li P.h1;have gP:Sm 1000 (aX l i j.on):=by rw[<- hj];exact oa D.hl D.li i2 i4
 have mx:Sm 1000 (aX l i j.to):=by rw[<- hj];exact oa D.hl D.li i2 (i5 P.hk)
 have hv:Sm _ (cK l i j):=mx.sub gP;haveI qn:Qz 310000 (jr l i j) 3:=zF (hv.dot hv) oz;haveI qh:Qz 310000 (cH l i j0 j) 3:=zF (hv.cross (gP.sub iI)) oz;obtain⟨w1,w2⟩:=OB D P.h0 P.p0 P.h1 hb;obtain⟨y1,y2⟩:=qT D.hl D.li D.al D.s D.hc P.h0 P.p0;haveI:=w1;haveI:=w2
 haveI z3:Zu 310000 65000 (cO l a i j0 j) 320 327:=(arf:Zu 310000 65000 (dotE (cm l a i j0 j).1 (cm l a i j0 j).2 (cm l a i j0 j).1 (cm l a i j0 j).2) _ _)
 exact⟨hv.mono oz,iI.mono oz,De D.li P.h1 P.hk hj,Cy.zq,z3,Ig (arf:Zu 310000 65000 (qE (jr l i j)*cO l a i j0 j-qE (cH l i j0 j)*qE (cH l i j0 j)) _ _) (by decide) (by decide),w1,w2,y1,y2⟩
theorem Kj{l:Li}{a:As}{i:Int}{j0 j:Jt}(F:RpF l a i j0 j)(tw:Tw (llq a.rs) 64990)(hn:(llq a.rs).length<=1)(f9:ao (cO l a i j0 j)≠0)(hp:0<=ao (bE l a i j0 j)) :
  ExtP (bE l a i j0 j)/\RqP (aW (llq a.rs) (sX (bE l a i j0 j))) (eT l a i j0 j) (dg (llq a.rs).length)/\RqP (aW (llq a.rs) (sX (bE l a i j0 j))) (eT l a i j0 j) (sX (-bJ (bE l a i j0 j))) /\
  FP 128 [aZ (aW (llq a.rs) (sX (bE l a i j0 j))),nA (dg (llq a.rs).length)] (.tup [nA (sX (-bJ (bE l a i j0 j))),.v .nilIface]):=by
 have E:ExtP (bE l a i j0 j):=yS tw hn F.zX hp;have ce:=E.cy;have zr:Nm (aW (llq a.rs) (sX (bE l a i j0 j))).length 773000000 (dg (llq a.rs).length):=(yP oz).mono (by decide);haveI zrl:Zl (aW (llq a.rs) (sX (bE l a i j0 j))) 773000000 1101400000 (dg (llq a.rs).length) (bJ (bE l a i j0 j)) 1 0:=Zl.at zr (by decide);haveI:=zrl.zu;have xl:=OV (ts:=aW (llq a.rs) (sX (bE l a i j0 j))) (u:=773000000) (k:=1101400000) (a:=dg (llq a.rs).length) (by decide);have zn:Nm (aW (llq a.rs) (sX (bE l a i j0 j))).length 773000000 (sX (-bJ (bE l a i j0 j))):=(arf:Zu 773000000 1101400000 (-bJ (bE l a i j0 j)) 1 0).nm.mono (by decide)
 have hR:∀q,Nm (aW (llq a.rs) (sX (bE l a i j0 j))).length 773000000 q->RqP (aW (llq a.rs) (sX (bE l a i j0 j))) (eT l a i j0 j) q:=fun q nq =>
  L7 (R := eT l a i j0 j) (j := (llq a.rs).length) ce F.hv F.hp F.vv nq (q8 (F.zl.nm.mono (by decide)) oz) (q8 (F.z3.nm.mono (by decide)) oz) (q8 (F.w1.nm.mono (by decide)) oz) (q8 (F.w2.nm.mono (by decide)) oz)
   (q8 (F.y1.nm.mono (by decide)) oz) (q8 (F.y2.nm.mono (by decide)) oz) (BD hn _ _ F.y1.nm).2 (BD hn _ _ F.y2.nm).2 F.z3.nm.nl (by rw[fp];omega) hn (by rw[show ao (dE (aW (llq a.rs) (sX (bE l a i j0 j))) (eT l a i j0 j).d)=ao (cO l a i j0 j)from tG];exact f9)
 exact⟨E,hR _ zr,hR _ zn,xl⟩
theorem Nh{l:Li}{a:As}{i:Int}{j0 j:Jt}(F:RpF l a i j0 j)(tw:Tw (llq a.rs) 64990)(hn:(llq a.rs).length<=1)(f9:ao (cO l a i j0 j)≠0):Cy (llq a.rs) 773000000 1101400000/\RqP (llq a.rs) (eT l a i j0 j) []:=by
 have cs:Cy (llq a.rs) 773000000 1101400000:=⟨⟨64990,tw,by show kB 64990 (llq a.rs).length<=_;have:=FL hn;omega⟩,by omega,by omega,by omega⟩
 have nil0:Nm (llq a.rs).length 773000000 []:=⟨tw.five,.inl rfl,Cb.nil.mono oz⟩
 exact ⟨cs, L7 (R := eT l a i j0 j) (j := (llq a.rs).length) cs F.hv F.hp F.vv nil0 (F.zl.nm.mono (by decide)) (F.z3.nm.mono (by decide)) (F.w1.nm.mono (by decide)) (F.w2.nm.mono (by decide))
   (F.y1.nm.mono (by decide)) (F.y2.nm.mono (by decide)) (FT _ _ F.y1.nm).2 (FT _ _ F.y2.nm).2 F.z3.nm.nl (apu _) hn (by rw[show ao (dE (llq a.rs) (eT l a i j0 j).d)=ao (cO l a i j0 j)from are ao (bu _ _)];exact f9)⟩
theorem YS{l:Li}{a:As}(D:DyR l a)(hn:(llq a.rs).length<=1){i z0 z1:Int}{j0 j:Jt}(hg:GrOk l ⟨3,[i],[z0,z1],0⟩)(P:SlP 3900000 l a ⟨3,[i],[z0,z1],0⟩ 3 i z0 z1 j0 j)(hj:j.b=i)(hb:Pd 3900000 a j.a) :
  Con prog 282 [.ptr 1000 0] [pP 1000 (c9 l ⟨3,[i],[z0,z1],0⟩ a)] (vU (lR l a i j0 j)) [pP 1000 (c9 l ⟨3,[i],[z0,z1],0⟩ a)]:=by
 haveI c:=D.s.ct D.hc;obtain⟨tw,etw⟩:=d9 D.s.tr D.hc;haveI cy:Cy (llq a.rs) 310000 65000:=⟨c.ex,c.k1,c.u3,by omega⟩
 have dp:=cy.lm;have F:=O3 D hn P hj hb;obtain⟨i1,i2,i3,i4,i5⟩:=ee D.li P.h1;have iI:Sm 1000 (am l j0 i):=ki D.hl D.li P.h0 P.p0.or;have gP:Sm 1000 (aX l i j.on):=by rw[<- hj];exact oa D.hl D.li i2 i4
 have mx:Sm 1000 (aX l i j.to):=by rw[<- hj];exact oa D.hl D.li i2 (i5 P.hk)
 have hv:Sm _ (cK l i j):=mx.sub gP;haveI qn:Qz 310000 (jr l i j) 3:=zF (hv.dot hv) oz;haveI qh:Qz 310000 (cH l i j0 j) 3:=zF (hv.cross (gP.sub iI)) oz;haveI z3:=F.z3;haveI zX:=F.zX;haveI zl:=F.zl;have bn:=Ys D (i:=i) (j0:=j0) (j:=j) (by decide);have m1:=ED (ts:=llq a.rs) (u:=310000) (k:=65000) (a:=sX (bE l a i j0 j)) (by decide);have m2:=ED (ts:=llq a.rs) (u:=310000) (k:=65000) (a:=sX (cO l a i j0 j)) (by decide);have m3:=ED (ts:=llq a.rs) (u:=310000) (k:=65000) (a:=sh 0 (cH l i j0 j:Rat)) (by decide);refine gF func282 (fun k z h=>bX h) ?_ (2,0);refine gW (Wk.o (sl:=[pP 0 (.ptr 1000 0),pP 4 (.ptr 24 0)]) (hp:=[pP 1000 (c9 l ⟨3,[i],[z0,z1],0⟩ a),pP 24 (cC a.rs)])) ?_;refine gt (aK (Con.rekeyBB 1000 24 (by decide) (by decide) rfl rfl rfl rfl rfl rfl (XN D hg P.h0 P.h1 P.p0 hj P.hk hb)) (bO rfl rfl) aL rfl rfl) ?_;refine gt (aK (Con.rekeyB1 24 rfl rfl rfl rfl rfl bn) (bO rfl rfl) aL rfl rfl) ?_ (4,0);refine gW (Wk.of (sl:=[pP 4 (.ptr 24 0),pP 5 (.ptr 5 0),pP 6 (nA (sX (bE l a i j0 j)))]) (hp:=[pP 1000 (c9 l ⟨3,[i],[z0,z1],0⟩ a),pP 5 (.box (vc l a i j0 j)),pP 24 (br (llq a.rs))]) a6 (.k (.k (.cons rfl (BlkSub.bL (.cons (.of (rg etw)) (.cons (.refl _) .nil)) rfl) .nil)))) ?_;refine gt (a9 (Con.rB 24 rfl rfl rfl rfl m1) (bO rfl rfl) rfl rfl rfl) ?_;refine gf ?_;refine gt (a9 (Con.rB 24 rfl rfl rfl rfl m2) (bO rfl rfl) rfl rfl rfl) ?_;refine gu (gK rfl rfl rfl (fun h=>a9 (Con.rB 24 rfl rfl rfl rfl m3) (.cons (.opt rfl (o1 h)) (.cons (.opt rfl (o1 h)) .nil)) rfl rfl rfl)) ?_;refine gC (fun y=>?_) (fun y=>?_)
 ·have h1:=ae9 y;refine gR ?_;exact(aD.keep (bB rfl)).sub (by unfold lR;rw[aq7 h1];exact Sub.tup (.cons (.nil _ _ _) (.cons (.refl _) .nil)))
 have h1:=aed y;refine gC (fun y=>?_) (fun y=>?_)
 ·have h2:ao (bE l a i j0 j)<0:=aq9 y;refine gR ?_;exact(aD.keep (bB rfl)).sub (by unfold lR;rw[aq6 h1,aq7 h2];exact Sub.tup (.cons (.nil _ _ _) (.cons (.refl _) .nil)))
 have h2:¬ao (bE l a i j0 j)<0:=ara y;have f9:ao (cO l a i j0 j)≠0:=xI tw h2 h1;refine Hw [4,5] [1000,5] (fun(T:LL)(qs:LL)=>[pP 8 (.lst 1 (qs.map nA))]) (fun T _=>[pP 24 (br T)]) (fun T qs=>Cy T 773000000 1101400000/\qs.length<=2/\(∀q∈qs,RqP T (eT l a i j0 j) q)/\lR l a i j0 j=(oI T (eT l a i j0 j) qs qs.length,0)) ?_ ?_
 ·intro K1 J1;refine gC (fun y=>?_) (fun y=>?_)
  ·have h3:0<ao (bE l a i j0 j):=aq9 y;obtain⟨E,R1,R2,xl⟩:=Kj F tw hn f9 oz;have ce:=E.cy;have kt:=OR (a:=sX (bE l a i j0 j)) tw zX.nm (by rw[dp];decide) (by rw[show af (llq a.rs).length (sX (bE l a i j0 j))=bE l a i j0 j from bu _ _];show 0<=ao (bE l a i j0 j);omega);refine gc kt ?_;refine gf ?_;refine gc xl ?_;refine gt (a9 (Con.rB 24 rfl rfl rfl rfl (w7 _ _)) (aO rfl rfl rfl) rfl rfl rfl) ?_;exact wJ J1 (aW (llq a.rs) (sX (bE l a i j0 j))) ([dg (llq a.rs).length,sX (-bJ (bE l a i j0 j))]) ⟨ce,apu 2,qj R1 R2,by unfold lR;rw[aq6 h1,aq6 h2,aq7 h3];rfl⟩
  have h3:¬0<ao (bE l a i j0 j):=ara y;obtain⟨cs,R0⟩:=Nh F tw hn f9;exact wJ J1 (llq a.rs) ([[]]) ⟨cs,by decide,lE R0,by unfold lR;rw[aq6 h1,aq6 h2,aq6 h3];rfl⟩ (hw:=Wk.of (.cons rfl afo (.k (.k .nil))) (.k (.k (.k .nil))))
 rintro T qs ⟨ct,td,hq,hR⟩;obtain⟨rr,twT,hkT⟩:=ct.ex;refine gl ?_;refine gW (Wk.virt 900 3 rfl) ?_;refine aS [4,5,8,90,91] [1000,5,24] (fun(q:Nat)=>[pP 12 (.ms 900 3 0 q),pP 92 (i64 q)]) (fun q=>[pP 900 (.row 3 (oI T (eT l a i j0 j) qs q))]) (fun q=>q<=qs.length) (fun q=>qs.length-q) 0 (apx _) ?_;rintro q hqi K2 J2;refine gC (fun y=>?_) (fun y=>?_) (st2:=(28,0))
 ·have ae:=a7 y;obtain ⟨x,hx⟩:=ay ae;have Je:qs.getD q [] = x:=ax hx;have R:=hq x (apo hx);refine gi (aA hx) ?_;refine gc R.c1 ?_;refine gt (a9 (Con.rB 24 rfl rfl rfl rfl (CF _ _ _)) (aO rfl rfl rfl) rfl rfl rfl) ?_;refine gD ?_;refine gc R.ng ?_;refine gt (a9 (Con.rB 24 rfl rfl rfl rfl (w7 _ _)) (aO rfl rfl rfl) rfl rfl rfl) ?_;refine gc R.c2 ?_;refine gt (a9 (Con.rB 24 rfl rfl rfl rfl (CF _ _ _)) (aO rfl rfl rfl) rfl rfl rfl) ?_;refine gD ?_;refine gc R.sb ?_;refine gt (a9 (Con.rB 24 rfl rfl rfl rfl (CF _ _ _)) (aO rfl rfl rfl) rfl rfl rfl) ?_;refine gD ?_;refine gt (a9 (Con.rB 24 rfl rfl rfl rfl (Dm R.d1)) (aO rfl rfl rfl) rfl rfl rfl) ?_;refine gt (a9 (Con.rB 24 rfl rfl rfl rfl (Dm R.d2)) (aO rfl rfl rfl) rfl rfl rfl) ?_;refine gD ?_;refine gc (Ha twT) ?_;refine gt (a9 (Con.rB 24 rfl rfl rfl rfl R.body) (.cons (.tmp rfl) (.cons (.tmp rfl) (.cons (.tmp rfl) (.cons (.tmp rfl) (.cons (.tmp rfl) .nil))))) rfl rfl rfl) ?_;refine gl ?_;refine gc (JG q qs.length oz) ?_;refine gs (cF (.tmp rfl) rfl (Fq _ _ _ _).symm (.tmp rfl) T252 rfl T257 rfl rfl (by dsimp only; simp only [ap4,ap9]; omega) rfl rfl) ?_;refine gD ?_ (27,0);refine gW (Wk.of (sl:=[pP 4 (.ptr 24 0),pP 5 (.ptr 5 0),pP 8 (.lst 1 (qs.map nA)),pP 12 (.ms 182 3 0 (q + 1)),pP 90 (.lst 1 (qs.map nA)),pP 91 (i64 qs.length),pP 92 (i64 q)]) (hp:=[pP 1000 (c9 l ⟨3,[i],[z0,z1],0⟩ a),pP 5 (.box (vc l a i j0 j)),pP 24 (br T),pP 182 (.row 3 (oI T (eT l a i j0 j) qs (q + 1)))]) a6 (.k (.k (.k (.cons rfl (.of (by rw [U0]; unfold j4; rw [Je]; rfl)) .nil))))) ?_ (27,0)
  refine gW (Wk.rk (k:=182) (d:=900) rfl rfl) ?_;refine ga aN ?_;exact aM J2 (q+1) ae
 have ae:=bj hqi y;subst ae;refine gW ((Wk.freeze (k:=900) rfl).trans<|Wk.of (sl:=[pP 4 (.ptr 24 0),pP 12 (.lst 3 (oI T (eT l a i j0 j) qs qs.length))]) (hp:=[pP 1000 (c9 l ⟨3,[i],[z0,z1],0⟩ a),pP 24 (br T)]) (.k (.cons rfl (.of (by rw[b8 (Fq _ _ _ _).symm])) .nil)) (.k (.k .nil))) ?_;refine gf ?_;refine gR ?_;exact(aD.keep (bB rfl)).sub (.of (by rw[hR];rfl))
theorem ag2:Sub (.agg [bl (rt ((1:Int):Rat)).neg,ws (rt ((1:Int):Rat)).num,ws (rt ((1:Int):Rat)).den,.v (.bool false),nS,nS]) (qP (((1:Int):Rat),0)) :=
 Sub.agg (.cons (.refl _) (.cons (.refl _) (.cons (.refl _) (.cons (.refl _) (.cons (Sub.nil _ _ _) (.cons (Sub.nil _ _ _) .nil)))))) rfl
theorem Af{ts:LL}(q:Rat):sX (qE q:Et ts)=sh 0 (q:Rat):=El _ _
def ot(l:Li)(a:As)(i:Int)(j0:Jt)(x:Tn):Pq:=gM (((1:Int):Rat),0) ((qE (dT x.half x.t.q),qE (dV x.half x.t.q)):P2 (llq a.rs)) (am l j0 i) (aC l a j0 i)
def pM(l:Li)(a:As)(i:Int)(j0:Jt)(x:Tn):List AV×Nat:=if x.err≠0 then([],x.err)else([(⟨llq a.rs,[ot l a i j0 x],1⟩:Sv).av],0)
theorem abp{l:Li}{g:Gr}{a:As}{x:Tn}(hx:x.t.ok)(hq:Qb 1000 x.t.q)(he:x.err≠0) :
  Con prog 279 [.ptr 1000 0,x.av] [pP 1000 (c9 l g a)] (.tup [.lst 3 [],bG x.err]) [pP 1000 (c9 l g a)]:=by
 refine gF func279 (fun k z h=>bX h) ?_;refine gc (Fi x hx hq oz) ?_;refine gC (fun y=>?_) (fun y=>?_) (st2:=(77777,0))
 ·refine gR ?_;exact(aD.keep (bB rfl)).sub (Sub.tup (.cons (.nil _ _ _) (.cons (.refl _) .nil)))
 exact ard (dS y) he
theorem Nw:Sm 3000 (((1:Int):Rat),(0:Rat)):=⟨Qb.one.mono oz,Qb.mono (e:=1) (q:=0) ⟨by decide,by decide⟩ oz⟩
theorem L8{E:Nat}(hE:E<=20000000000){l:Li}{a:As}(D:DyW l a)(h3:(llq a.rs).length<=2){body pt:Int}(h1:bR body l.bo.length=true)(h2:bR pt (dm l body).length=true)(hb:Pd E a body) :
  Nm (llq a.rs).length 62500000000 (sX (bi l a body pt).1)/\Nm (llq a.rs).length 62500000000 (sX (bi l a body pt).2):=by
 obtain⟨n,k,bd,m,b,hp⟩:=zy D.hl D.li D.al D.hc h1 h2 hb;obtain⟨tw,_⟩:=d9 D.al.tr D.hc;have kb:=tB h3;have qx:Qb 1000 m.x.q:=by rw[hp.mp.ex,bN];exact hp.mp.sm.x
 have qy:Qb 1000 m.y.q:=by rw[hp.mp.ey,bN];exact hp.mp.sm.y
 have h:=Dq tw hp.ok qx qy;unfold bi;rw[hp.eq];exact⟨h.1.mono oz,h.2.mono oz⟩
theorem ah7{E:Nat}(hE:E<=20000000000){l:Li}{a:As}(D:DyW l a)(h3:(llq a.rs).length<=2){i:Nat}{j:Jt}(hj:l.jo[i]?=some j){b:Int}(h:PinP E l a j b) :
  Nm (llq a.rs).length 62500000000 (sX (aC l a j b).1)/\Nm (llq a.rs).length 62500000000 (sX (aC l a j b).2):=by
 obtain⟨i1,i2,i3,i4,_⟩:=ee D.li hj;unfold aC;rcases h.tie with⟨e,hb⟩ |⟨e,e2,hb⟩
 ·rw[aq7 e];exact L8 hE D h3 i2 i4 hb
 ·rw[aq6 e];exact L8 hE D h3 i1 i3 hb
theorem KJ{E:Nat}(hE:E<=20000000000){l:Li}{a:As}(D:DyW l a)(h3:(llq a.rs).length<=2){n:Nat}{i:Int}{j0:Jt}(h0:l.jo[n]?=some j0)(p0:PinP E l a j0 i){x:Tn}(hq:Qb 1000 x.t.q) :
  BdP (llq a.rs) (((1:Int):Rat),(0:Rat)) ((qE (dT x.half x.t.q),qE (dV x.half x.t.q)):P2 (llq a.rs)) (am l j0 i) (aC l a j0 i):=by
 obtain⟨tw,etw⟩:=d9 D.al.tr D.hc;have qc:=xX (half:=x.half) hq;have qs:=xZ (half:=x.half) hq;have iI:Sm 1000 (am l j0 i):=ki D.hl D.li h0 p0.or;obtain⟨y1,y2⟩:=ah7 hE D h3 h0 p0
 exact Qx (F := 80000000000) (W := 10000) (u := (((1 : Int) : Rat), (0 : Rat))) (p := am l j0 i) (w := ((qE (dT x.half x.t.q), qE (dV x.half x.t.q)) : P2 (llq a.rs))) (o := aC l a j0 i) tw h3 (tB h3) Nw (iI.mono oz) (by decide +kernel)
  (by show Nm _ _ (sX (qE (dT x.half x.t.q):Et (llq a.rs)));rw[Af];exact(uw tw.five qc).mono oz) (by show Nm _ _ (sX (qE (dV x.half x.t.q):Et (llq a.rs)));rw[Af];exact(uw tw.five qs).mono oz) y1 y2 oz oz oz
theorem UQ{E:Nat}(hE:E<=20000000000){l:Li}{a:As}(D:DyW l a)(h3:(llq a.rs).length<=2){i z0 d:Int}{j0:Jt}(hg:GrOk l ⟨0,[i],[z0],d⟩)(h0:l.jo[z0.toNat]?=some j0)(p0:PinP E l a j0 i){x:Tn}(hx:x.t.ok)(hq:Qb 1000 x.t.q)(he:x.err=0) :
  Con prog 279 [.ptr 1000 0,x.av] [pP 1000 (c9 l ⟨0,[i],[z0],d⟩ a)] (.tup [.lst 3 [(⟨llq a.rs,[ot l a i j0 x],1⟩:Sv).av],.v .nilIface]) [pP 1000 (c9 l ⟨0,[i],[z0],d⟩ a)]:=by
 obtain⟨tw,etw⟩:=d9 D.al.tr D.hc;have hc:=Fi x hx hq oz;rw[aq7 he,he]at hc;have hs:=Qn x hx hq oz;rw[aq7 he,he]at hs;have qc:=xX (half:=x.half) hq;have qs:=xZ (half:=x.half) hq;have iI:Sm 1000 (am l j0 i):=ki D.hl D.li h0 p0.or;have hb:=GP Nw (iI.mono oz) (KJ hE D h3 h0 p0 hq)
 have ew:eU (P2.l ((qE (dT x.half x.t.q),qE (dV x.half x.t.q)):P2 (llq a.rs)))=aR (sh 0 (dT x.half x.t.q:Rat)) (sh 0 (dV x.half x.t.q:Rat)):=by
  show aR (sX (qE (dT x.half x.t.q):Et (llq a.rs))) (sX (qE (dV x.half x.t.q):Et (llq a.rs)))=_;rw[Af,Af]
 rw[ew]at hb;have f7:=Ha tw;have alg:FP 375 [dU a.rs] (aZ (llq a.rs)):=by rw[etw];exact f7
 refine gF func279 (fun k z h=>bX h) ?_;refine gc hc ?_;refine gf ?_;refine gc hs ?_;refine gf ?_;refine gi rfl ?_;refine gt (a9 (xY hE D.hl D.li _ hg D.al D.hc (k:=0) rfl h0 h3 p0) (.cons (.tmp rfl) (.cons (.const _) (du rfl))) rfl rfl rfl) ?_;refine gD ?_ (9,0);refine gW (Wk.of (sl:=[pP 0 (.ptr 1000 0),pP 6 (.ptr 6 0),pP 8 (.ptr 8 0),pP 9 (.ptr 9 0),pP 10 (.ptr 10 0),pP 11 (.ptr 52 0)]) (hp:=[pP 1000 (c9 l ⟨0,[i],[z0],d⟩ a),pP 6 (.box [bl (rt (dT x.half x.t.q)).neg,ws (rt (dT x.half x.t.q)).num,ws (rt (dT x.half x.t.q)).den]),pP 8 (.box [bl (rt (dV x.half x.t.q)).neg,ws (rt (dV x.half x.t.q)).num,ws (rt (dV x.half x.t.q)).den]),pP 9 (.box (qC (am l j0 i))),pP 10 (.box [nA (sX (aC l a j0 i).1),nA (sX (aC l a j0 i).2)]),pP 52 (br (llq a.rs))]) a6 (.k (.k (.k (.k (.k (.cons rfl (BlkSub.bL (.cons (.of (rg etw)) (.cons (.refl _) .nil)) rfl) .nil))))))) ?_
 refine gc (oQ 1 oz) ?_;refine gc (AK (qc.qs oz) (qs.qs oz)) ?_;refine gt (a9 (Con.rB 52 rfl rfl rfl rfl (Con.sA (.cons (.refl _) (.cons ag2 (.cons (.refl _) (.cons (.refl _) (.cons (.refl _) .nil))))) hb)) (.cons (.tmp rfl) (.cons (.tmp rfl) (.cons (.tmp rfl) (.cons (.tmp rfl) (.cons (.tmp rfl) .nil))))) rfl rfl rfl) ?_;refine gD ?_;refine gf ?_;refine gc alg ?_;refine gD ?_;refine gR ?_;exact aD.keep (bB rfl)
theorem acg{E:Nat}(hE:E<=20000000000){l:Li}{a:As}(D:DyW l a)(h3:(llq a.rs).length<=2){i z0 d:Int}{j0:Jt}(hg:GrOk l ⟨0,[i],[z0],d⟩)(h0:l.jo[z0.toNat]?=some j0)(p0:PinP E l a j0 i){x:Tn}(hx:x.t.ok)(hq:Qb 1000 x.t.q) :
  Con prog 279 [.ptr 1000 0,x.av] [pP 1000 (c9 l ⟨0,[i],[z0],d⟩ a)] (vU (pM l a i j0 x)) [pP 1000 (c9 l ⟨0,[i],[z0],d⟩ a)]:=by
 by_cases he:x.err=0
 ·have h:=UQ hE D h3 hg h0 p0 hx hq he;unfold pM;rw[aq6 oz];exact h
 ·have h:=abp (l:=l) (g:=⟨0,[i],[z0],d⟩) (a:=a) hx hq he;unfold pM;rw[aq7 he];exact h
def me(l:Li)(a:As)(g:Gr)(x:Tn):List AV×Nat :=
  if g.kind=0 then pM l a (aV g 0) (aq l g 0) x
  else if g.kind=1 then nP l a (aV g 0) (aV g 1) (aq l g 0) (aq l g 1) (aq l g 2)
  else if g.kind=2 then oi l a (aV g 0) (aq l g 0) (aq l g 1)
  else lR l a (aV g 0) (aq l g 0) (aq l g 1)
theorem Ik{E:Nat}{l:Li}{k:Int}{a:As}{own:Bool}{n:Nat}{g:Gr}(h:DyOk E l k a own n g)(hk:g.kind=0):∃i z0 d j0,g=⟨0,[i],[z0],d⟩/\l.jo[z0.toNat]?=some j0/\PinP E l a j0 i:=by
 have hd:=h.dy;cases hd with
 |rrr _ _ _ _ _ _ _=>exact ard hk (by simp)
 |pr _ _ _=>exact ard hk (by simp)
 |rp _ _ _=>exact ard hk (by simp)
 | @drv b z d j x t d0 hd hb=>exact⟨b,z,d,j,rfl,t.hj,h.pin rfl t (by simp) (by simp)⟩
theorem aea{l:Li}{k:Int}{x:Tn}{a:As}{E:Nat}(cP:FP 90 [l.av,i64 k,a.av,bl false] (.tup [.v (.pointer none),bG E]))(h0:E≠0) :
  FP 153 [l.av,i64 k,x.av,a.av] (.tup [.lst 3 [],bG E]):=by
 refine ai func153 ?_;refine gc cP ?_;refine gC (fun z=>?_) (fun z=>?_) (st2:=(77777,0))
 ·refine gR ?_;exact fv (Sub.tup (.cons (.nil _ _ _) (.cons (.refl _) .nil)))
 exact ard (dS z) h0
theorem ajh{E:Nat}(hE:E<=20000000000){l:Li}{k:Int}{a:As}{n:Nat}{g:Gr}{x:Tn}(hx:x.t.ok)(hq:Qb 1000 x.t.q)(h3:(llq a.rs).length<=2)(hR:g.kind≠0->E=3900000/\DyS a)(cP:Con prog 90 [l.av,i64 k,a.av,bl false] [] (.tup [.ptr 900 0,.v .nilIface]) [pP 900 (c9 l g a)])(D:DyW l a)(ok:DyOk E l k a false n g) :
  FP 153 [l.av,i64 k,x.av,a.av] (vU (me l a g x)):=by
 have ff:=ok.ok;refine ai func153 ?_;refine gt (aK cP (.cons (.tmp rfl) (.cons (.tmp rfl) (.cons (.tmp rfl) (.cons (.const _) .nil)))) aL rfl rfl) ?_ (2,0);refine gW (Wk.o (sl:=[pP 6 (.ptr 6 0),pP 10 (.ptr 900 0),pP 11 (.v .nilIface)]) (hp:=[pP 6 (.box x.av.cells),pP 900 (c9 l g a)])) ?_;refine gf ?_;refine gC (fun z=>?_) (fun z=>?_)
 ·have hk:g.kind = 0:=dL z;obtain ⟨i,z0,d,j0,e,jB,p0⟩:=Ik ok hk;have eR:me l a g x = pM l a i j0 x:=by unfold me; rw [aq7 hk,e]; show pM l a i (l.jo.getD z0.toNat default) x = _; rw [ax jB]
  subst e;refine gt (a9 (Con.rB 900 rfl rfl rfl rfl (acg hE D h3 ff jB p0 hx hq)) (bO rfl rfl) rfl rfl rfl) ?_;refine gR ?_;exact fv (.of (by rw[eR];rfl))
 have gz:g.kind≠0:=eZ z;obtain⟨rP,S⟩:=hR gz;subst rP;have D:DyR l a:=⟨D,S⟩
 have hn:=S.one D.hc;refine gC (fun z=>?_) (fun z=>?_)
 ·have hk:g.kind = 1:=dL z;obtain ⟨i,k2,z0,z1,z2,j0,j1,j2,P⟩:=ok.rrr hk;obtain ⟨e0,e1,e2,b0,b1,_⟩:=P.at;have eR:me l a g x = nP l a i k2 j0 j1 j2:=by unfold me; rw [aq6 gz,aq7 hk,e0,e1,e2,b0,b1]
  have e:=P.eq;subst e;refine gt (a9 (Con.rB 900 rfl rfl rfl rfl (Xg D hn ff P)) (du rfl) rfl rfl rfl) ?_;refine gR ?_;exact fv (.of (by rw[eR];rfl))
 have f8:g.kind≠1:=eZ z;refine gC (fun z=>?_) (fun z=>?_)
 ·have hk:g.kind = 2:=dL z;obtain ⟨i,z0,z1,j0,j,P,ha,hb⟩:=ok.pr hk;obtain ⟨e0,e1,b0,_⟩:=P.at;have eR:me l a g x = oi l a i j0 j:=by unfold me; rw [aq6 gz,aq6 f8,aq7 hk,e0,e1,b0]
  have e:=P.eq;subst e;refine gt (a9 (Con.rB 900 rfl rfl rfl rfl (ZT D hn ff P ha hb)) (du rfl) rfl rfl rfl) ?_;refine gR ?_;exact fv (.of (by rw[eR];rfl))
 have dj:g.kind≠2:=eZ z;obtain⟨i,z0,z1,j0,j,P,_,hj,hb⟩:=ok.rp gz f8 dj;obtain⟨e0,e1,b0,_⟩:=P.at;have eR:me l a g x=lR l a i j0 j:=by unfold me;rw[aq6 gz,aq6 f8,aq6 dj,e0,e1,b0]
 have e:=P.eq;subst e;refine gt (a9 (Con.rB 900 rfl rfl rfl rfl (YS D hn ff P hj hb)) (du rfl) rfl rfl rfl) ?_;refine gR ?_;exact fv (.of (by rw[eR];rfl))
def Df(l:Li)(k:Int)(x:Tn)(a:As):List AV×Nat:=if iY l k a false=0 then me l a (lO l k) x else([],iY l k a false)
theorem Vy(l:Li)(hl:l.ok)(k:Int){x:Tn}(hx:x.t.ok)(hq:Qb 1000 x.t.q)(a:As)(al:AB a)(h3:bS a.rs=0->(llq a.rs).length<=2){E:Nat}(hE:E<=20000000000)(hs:CK E l k a false)(hR:iY l k a false=0->(lO l k).kind≠0->E=3900000/\DyS a) :
  FP 153 [l.av,i64 k,x.av,a.av] (vU (Df l k x a)):=by
 have cP:=Qd l hl k a al false;unfold Df
 by_cases h0:iY l k a false=0
 ·obtain ⟨n, g, ok⟩:=EL hs h0;have mw:lO l k = g:=by unfold lO; rw [ok.hk,aqo]; exact ax ok.hg
  have hR:=hR h0;rw[mw]at hR;rw[h0,mw]at cP;rw[aq7 h0,mw];exact ajh hE hx hq (h3 ok.chk) hR cP ⟨hl,ok.li,al,ok.chk⟩ ok
 ·rw[pK h0,vf h0]at cP;rw[aq6 h0];exact aea cP h0
structure SvOk(s:Sv):Prop where
  tw:∃r,Tw s.ts r
  two:s.ts.length<=2
  ps:∀p∈s.ps,Pq.ok s.ts.length 80000000000 p
  ln:s.ps.length<=2
theorem X9{ts:LL}{r:Nat}(h:Tw ts r)(k:Nat):Tw (ts.take k) r:=by
 have hl:(ts.take k).length<=ts.length:=by rw[ap7];omega
 have hg:∀j,j<(ts.take k).length->j<k/\j<ts.length:=fun j hj=>by rw[ap7]at hj;omega
 refine⟨aqe hl h.three,fun j hj=>?_,fun j hj=>?_,?_,h.le⟩
 ·obtain⟨h1,h2⟩:=hg j hj;have h3:=h.len j h2;rw[apq,aqh,aq7 h1,<- apq];exact h3
 ·obtain⟨h1,h2⟩:=hg j hj;have h3:=h.pos j h2;rw[T.sgn_congr j (fun i hi=>vo (by omega:i<k)),vo h1];exact h3
 ·obtain⟨D,N,h1,h2,h3⟩:=h.rb;exact⟨D,N,h1,fun d hd=>h2 d (aqw hd),h3⟩
theorem qX(ts:LL)(x:T ts.length):iS ts x x=true:=by
 unfold iS subT;rw[T.add_neg,T.sgn_zero];rfl
theorem WN{ts:LL}{r:Nat}(tw:Tw ts r){k:Nat}{d:List Rat}(hd:ts[k]?=some d) :
  FP 50 [.agg [.lst 1 (((ts.map nA).drop 0).take (k-0))],nA d,nA d] (bl true):=by
 have hk:=(anz.1 hd).1;have h3:=tw.three;have bV:=tw.len k hk;rw[ax hd]at bV;have hl:(ts.take k).length=k:=by rw[ap7];omega
 have tc:=tw.rb.cb k;rw[ax hd]at tc;have dp:=mD k;have cG:=tw.le;have hm:Nm (ts.take k).length r d:=⟨by omega,.inr ⟨k,by omega,bV⟩,tc⟩
 have h:=Ae (X9 tw k) hm hm (by rw[hl];omega);rw[qX]at h;rw[Nat.sub_zero,aq1,<- map_take];exact h
theorem QJ{ts:LL}{r:Nat}(tw:Tw ts r):FP 107 [aZ ts] (i64 0):=by
 have hC:=Lj (ts.map (List.map rt)) r tw.tr;rw[tw.chk,lM]at hC;exact hC
theorem Z0{ts:LL}{r:Nat}(tw:Tw ts r):FP 88 [aZ ts,aZ ts] (bl true):=by
 have h3:=tw.three;refine ai func88 ?_;refine gc (QJ tw) ?_;refine bT (fun _=>(QJ tw)) ?_;refine cA ?_;refine cA ?_;refine gC (fun z=>?_) (fun z=>?_) (st1:=(2,0));exact ard z (by simp[aa]);refine gl ?_;refine aS [2,3,25] [2,3] (fun(k:Nat)=>[pP 26 (i64 k)]) (fun _=>[]) (fun k=>k<=ts.length) (fun k=>ts.length-k) 0 (apx _) ?_;rintro k hk K1 J1;refine gC (fun z=>?_) (fun z=>?_)
 ·have ae:=a7 z;obtain⟨d,hd⟩:=ay ae;refine gs (dZ (.tmp rfl) (.none _) (.some _ (.tmp rfl) oz) T42 rfl T53 rfl oz (by simp only[apr];omega) rfl) ?_;refine gi (aA hd) ?_;refine gi (aA hd) ?_;refine gc (WN tw hd) ?_;refine gD ?_;refine gf ?_;refine ga aN ?_;exact aM J1 (k+1) ae
 refine ah ?_;rfl
theorem adc{ts:LL}{r:Nat}(tw:Tw ts r)(h2:ts.length<=2){p:Pq}(hp:Pq.ok ts.length 80000000000 p):FP 17 [aZ ts,p.av,p.av] (bl true):=by
 have hl:lm ts.length=200000000000:=by unfold lm;rw[aq7 h2]
 have h:=ah0 tw hp.c hp.s hp.x hp.y hp.c hp.s hp.x hp.y (by rw[hl];omega);rw[qX,qX,qX,qX]at h;exact h
structure SolP(S:List Sv)(kd:Int)(n b:Nat):Prop where
  two:S.length<=2
  ok:∀s∈S,SvOk s
  md:∀(i:Nat)(s:Sv),S[i]?=some s->s.mode=(if kd=0 then 1 else if S.length=2 then 1-2*(i:Int)else 0)/\s.ts.length=n+(if S.length=2 then 1 else 0)/\s.ps.length=b
theorem uc(kd:Int)(n b:Nat):SolP [] kd n b:=⟨by simp,by simp,by simp⟩
theorem CW(f:Nat->Sv)(n:Nat):((List.range n).map fun i=>(f i).av)=((List.range n).map f).map Sv.av:=by rw[map_map];rfl
theorem U3{ts:LL}(p q:P2 ts)(z z2:Et ts)(h0:gq p q z z2=0):(d6 p q z z2).ts.length=ts.length+(if(d6 p q z z2).ps.length=2 then 1 else 0):=by
 unfold gq pZ at h0;unfold d6 k9;split
 ·rename_i hd;rw[aq7 hd]at h0;split
  ·simp
  ·rename_i hz;split
   ·rename_i hp;rw[aq7 ⟨apn.1 hz,hp⟩]at h0;cases h0
   ·simp
 ·split
  ·simp
  ·split
   ·simp
   ·simp[fp]
theorem ajn{ts:LL}(p q o:P2 ts)(z:Et ts)(h0:gd p q=0):(eg p q o z).ts.length=ts.length+(if(eg p q o z).ps.length=2 then 1 else 0):=by
 unfold gd at h0;unfold eg;split
 ·rename_i hd;rw[aq7 hd]at h0;cases h0
 ·split
  ·simp
  ·split
   ·simp
   ·simp[fp]
def gj(m:Mt)(hs:List Hd):List Sv:=(List.range m.ps.length).map (kO m hs)
def jX(l:Li)(a:As)(i k:Int)(j0 j1 j2:Jt):List Sv :=
  if fY [cf (am l j2 i) (am l j0 i),cf (am l j2 k) (am l j1 k)]=true then[]
  else if gq (aC l a j0 i) (aC l a j1 k) (qE (bI (am l j2 i) (am l j0 i))) (qE (bI (am l j2 k) (am l j1 k)))≠0 then[]
  else gj (d6 (aC l a j0 i) (aC l a j1 k) (qE (bI (am l j2 i) (am l j0 i))) (qE (bI (am l j2 k) (am l j1 k)))) [⟨am l j0 i,P2.l (aC l a j0 i),am l j2 i⟩,⟨am l j1 k,P2.l (aC l a j1 k),am l j2 k⟩]
def j5(l:Li)(a:As)(i:Int)(j0 j:Jt):List Sv :=
  if fY [cf (aX l i j.point) (am l j0 i)]=true then[]
  else if gd (bi l a j.b j.on) (bi l a j.b j.to)≠0 then[]
  else gj (eg (bi l a j.b j.on) (bi l a j.b j.to) (aC l a j0 i) (qE (bI (aX l i j.point) (am l j0 i)))) [⟨am l j0 i,P2.l (aC l a j0 i),aX l i j.point⟩]
def jK(ts:LL)(R:Rp)(qs:LL):List Sv:=(List.range qs.length).map (j4 ts R qs)
def kr(l:Li)(a:As)(i:Int)(j0 j:Jt):List Sv :=
  if ao (cO l a i j0 j)=0/\ao (qE (cH l i j0 j):Et (llq a.rs))=0 then[]
  else if ao (bE l a i j0 j)<0 then[]
  else if 0<ao (bE l a i j0 j)then jK (aW (llq a.rs) (sX (bE l a i j0 j))) (eT l a i j0 j) [dg (llq a.rs).length,sX (-bJ (bE l a i j0 j))]
  else jK (llq a.rs) (eT l a i j0 j) [[]]
def lC(l:Li)(a:As)(i:Int)(j0:Jt)(x:Tn):List Sv:=if x.err≠0 then[]else[⟨llq a.rs,[ot l a i j0 x],1⟩]
def fq(l:Li)(a:As)(g:Gr)(x:Tn):List Sv :=
  if g.kind=0 then lC l a (aV g 0) (aq l g 0) x
  else if g.kind=1 then jX l a (aV g 0) (aV g 1) (aq l g 0) (aq l g 1) (aq l g 2)
  else if g.kind=2 then j5 l a (aV g 0) (aq l g 0) (aq l g 1)
  else kr l a (aV g 0) (aq l g 0) (aq l g 1)
theorem ZK(l:Li)(a:As)(i k:Int)(j0 j1 j2:Jt):(nP l a i k j0 j1 j2).1=(jX l a i k j0 j1 j2).map Sv.av:=by
 unfold nP jX;split
 ·rfl
 ·split
  ·rfl
  ·exact CW _ _
theorem adp(l:Li)(a:As)(i:Int)(j0 j:Jt):(oi l a i j0 j).1=(j5 l a i j0 j).map Sv.av:=by
 unfold oi j5;split
 ·rfl
 ·split
  ·rfl
  ·exact CW _ _
theorem ac4(l:Li)(a:As)(i:Int)(j0 j:Jt):(lR l a i j0 j).1=(kr l a i j0 j).map Sv.av:=by
 unfold lR kr;split
 ·rfl
 ·split
  ·rfl
  ·split
   ·exact CW _ _
   ·exact CW _ _
theorem ag5(l:Li)(a:As)(g:Gr)(x:Tn):(me l a g x).1=(fq l a g x).map Sv.av:=by
 unfold me fq;split
 ·unfold pM lC;split <;> rfl
 ·split
  ·exact ZK ..
  ·split
   ·exact adp ..
   ·exact ac4 ..
theorem JK{ts:LL}{m:Mt}(ok:MtOk ts m){hs:List Hd}(hl:hs.length<=2)(H:∀x∈m.ps,∀h∈hs,HdP m.ts x h){kd:Int}(hk:kd≠0)(lv:m.ts.length=ts.length+(if m.ps.length=2 then 1 else 0)) :
  SolP (gj m hs) kd ts.length hs.length:=by
 have iV:=ok.ln;refine⟨by simpa[gj]using iV,?_,?_⟩
 ·intro s mx;obtain⟨i,hi,rfl⟩:=anx.1 mx;obtain⟨x,hx⟩:=ay (an2.1 hi);obtain⟨r,tw,_⟩:=ok.tw;refine⟨⟨r,tw⟩,ok.two,?_,by simpa[kO]using hl⟩;intro p hp;unfold kO at hp;rw[ax hx]at hp;obtain⟨h,hh,rfl⟩:=anx.1 hp;exact(H x (apo hx) h hh).b.ok
 ·intro i s hi;unfold gj at hi;have ae:i < m.ps.length:=by have:=(anz.1 hi).1; simpa using this
  have e:s=kO m hs i:=by simp[ae]at hi;exact hi.symm
  subst e;have bV:(gj m hs).length=m.ps.length:=by simp[gj]
  rw[bV,aq6 hk];refine⟨?_,lv,by simp[kO]⟩;show(if m.ps.length=1 then 0 else 1-2*(i:Int))=_
  by_cases h2:m.ps.length=2
  ·rw[aq6 oz,aq7 h2]
  ·rw[aq7 oz,aq6 h2]
theorem UO{l:Li}{a:As}(D:DyR l a)(hn:(llq a.rs).length<=1){g:Gr}{i k z0 z1 z2:Int}{j0 j1 j2:Jt}(P:RrrP 3900000 l a g i k z0 z1 z2 j0 j1 j2):SolP (jX l a i k j0 j1 j2) 1 (llq a.rs).length 2:=by
 have c:=D.s.ct D.hc;obtain⟨tw,etw⟩:=d9 D.s.tr D.hc;have gB:=ki D.hl D.li P.h0 P.p0.or;have pz:=ki D.hl D.li P.h1 P.p1.or;have fK:=ki D.hl D.li P.h2 P.t1;have pC:=ki D.hl D.li P.h2 P.t2;obtain⟨y1,y2⟩:=qT D.hl D.li D.al D.s D.hc P.h0 P.p0;obtain⟨y3,y4⟩:=qT D.hl D.li D.al D.s D.hc P.h1 P.p1;haveI:=c;haveI q1:=ww fK gB;haveI q2:=ww pC pz;have z1:Zu 310000 65000 (qE (bI (am l j2 i) (am l j0 i)):Et (llq a.rs)) 3 0:=arf;have z2:Zu 310000 65000 (qE (bI (am l j2 k) (am l j1 k)):Et (llq a.rs)) 3 0:=arf;unfold jX
 by_cases h1:fY [cf (am l j2 i) (am l j0 i),cf (am l j2 k) (am l j1 k)]=true
 ·rw[aq7 h1];exact uc _ _ _
 ·rw[aq6 h1];obtain⟨w1,w2⟩:=Ag (aou.2 h1)
  by_cases h2:gq (aC l a j0 i) (aC l a j1 k) (qE (bI (am l j2 i) (am l j0 i))) (qE (bI (am l j2 k) (am l j1 k)))≠0
  ·rw[aq7 h2];exact uc _ _ _
  ·rw[aq6 h2];have h3:=apn.1 h2;have ok:=Oo (x:=(aC l a j0 i).1) (y:=(aC l a j0 i).2) (x2:=(aC l a j1 k).1) (y2:=(aC l a j1 k).2) tw hn c y1 y2 z1 y3 y4 z2 h3;exact JK ok (by simp) (fun x hx=>qj (wI ok hx (y1.nm.mono (by decide)) (y2.nm.mono (by decide)) gB fK w1) (wI ok hx (y3.nm.mono (by decide)) (y4.nm.mono (by decide)) pz pC w2)) (by decide) (U3 _ _ _ _ h3)
theorem VK{l:Li}{a:As}(D:DyR l a)(hn:(llq a.rs).length<=1){g:Gr}{i z0 z1:Int}{j0 j:Jt}(P:SlP 3900000 l a g 2 i z0 z1 j0 j)(ha:j.a=i)(hb:Pd 3900000 a j.b):SolP (j5 l a i j0 j) 2 (llq a.rs).length 1:=by
 have c:=D.s.ct D.hc;obtain⟨tw,etw⟩:=d9 D.s.tr D.hc;obtain⟨i1,i2,i3,i4,i5⟩:=ee D.li P.h1;have fK:Sm 1000 (aX l i j.point):=by rw[<- ha];exact oa D.hl D.li i1 i3
 have gB:=ki D.hl D.li P.h0 P.p0.or;obtain⟨y1,y2⟩:=qT D.hl D.li D.al D.s D.hc P.h0 P.p0;obtain⟨y3,y4⟩:=sT D.hl D.li D.al D.s D.hc i2 i4 hb;obtain⟨y5,y6⟩:=sT D.hl D.li D.al D.s D.hc i2 (i5 P.hk) hb;haveI:=c;haveI q1:=ww fK gB;have z1:Zu 310000 65000 (qE (bI (aX l i j.point) (am l j0 i)):Et (llq a.rs)) 3 0:=arf;unfold j5
 by_cases h1:fY [cf (aX l i j.point) (am l j0 i)]=true
 ·rw[aq7 h1];exact uc _ _ _
 ·rw[aq6 h1];have w1:=yx (aou.2 h1)
  by_cases h2:gd (bi l a j.b j.on) (bi l a j.b j.to)≠0
  ·rw[aq7 h2];exact uc _ _ _
  ·rw[aq6 h2];have h3:=apn.1 h2;have ok:=M5 (o:=aC l a j0 i) (p:=bi l a j.b j.on) (q:=bi l a j.b j.to) (z:=qE (bI (aX l i j.point) (am l j0 i))) tw hn c y1 y2 y3 y4 y5 y6 z1 h3;exact JK ok (by simp) (fun x hx=>lE (wI ok hx (y1.nm.mono (by decide)) (y2.nm.mono (by decide)) gB fK w1)) (by decide) (ajn _ _ _ _ h3)
theorem LP{ts T:LL}{R:Rp}{qs:LL}(ct:Cy T 773000000 1101400000)(hl:qs.length<=2)(h1:1<=qs.length)(H:∀q∈qs,RqP T R q)(lv:T.length=ts.length+(if qs.length=2 then 1 else 0)):SolP (jK T R qs) 3 ts.length 1:=by
 refine⟨by simpa[jK]using hl,?_,?_⟩
 ·intro s mx;obtain⟨i,hi,rfl⟩:=anx.1 mx;obtain⟨x,hx⟩:=ay (an2.1 hi);obtain⟨r,tw,_⟩:=ct.ex;refine⟨⟨r,tw⟩,ct.two,?_,by simp[j4]⟩;intro p hp;unfold j4 at hp;rw[ax hx]at hp;rw[am8.1 hp];exact(H x (apo hx)).b.ok
 ·intro i s hi;unfold jK at hi;have ae:i < qs.length:=by have:=(anz.1 hi).1; simpa using this
  have e:s=j4 T R qs i:=by simp[ae]at hi;exact hi.symm
  subst e;have bV:(jK T R qs).length=qs.length:=by simp[jK]
  rw[bV,aq6 (by decide)];refine⟨?_,lv,by simp[j4]⟩;show(if qs.length=1 then 0 else 1-2*(i:Int))=_
  by_cases h2:qs.length=2
  ·rw[aq6 oz,aq7 h2]
  ·rw[aq7 oz,aq6 h2]
theorem ake{l:Li}{a:As}(D:DyR l a)(hn:(llq a.rs).length<=1){g:Gr}{i z0 z1:Int}{j0 j:Jt}(P:SlP 3900000 l a g 3 i z0 z1 j0 j)(hj:j.b=i)(hb:Pd 3900000 a j.a):SolP (kr l a i j0 j) 3 (llq a.rs).length 1:=by
 obtain⟨tw,etw⟩:=d9 D.s.tr D.hc;have F:=O3 D hn P hj hb;unfold kr
 by_cases h1:ao (cO l a i j0 j)=0/\ao (qE (cH l i j0 j):Et (llq a.rs))=0
 ·rw[aq7 h1];exact uc _ _ _
 ·rw[aq6 h1]
  by_cases h2:ao (bE l a i j0 j)<0
  ·rw[aq7 h2];exact uc _ _ _
  ·rw[aq6 h2];have f9:ao (cO l a i j0 j)≠0:=xI tw h2 h1
   by_cases h3:0<ao (bE l a i j0 j)
   ·rw[aq7 h3];obtain⟨E,R1,R2,_⟩:=Kj F tw hn f9 oz;exact LP (ts:=llq a.rs) (qs:=[dg (llq a.rs).length,sX (-bJ (bE l a i j0 j))]) E.cy (apu 2) (by show 1<=2;omega) (qj R1 R2) (fp (llq a.rs) (sX (bE l a i j0 j)))
   ·rw[aq6 h3];obtain⟨cs,R0⟩:=Nh F tw hn f9;exact LP (ts:=llq a.rs) (qs:=[[]]) cs (by show 1<=2;omega) (apu 1) (lE R0) rfl
theorem ad7{E:Nat}(hE:E<=20000000000){l:Li}{a:As}(D:DyW l a)(h3:(llq a.rs).length<=2){i z0:Int}{j0:Jt}(h0:l.jo[z0.toNat]?=some j0)(p0:PinP E l a j0 i){x:Tn}(hq:Qb 1000 x.t.q):SolP (lC l a i j0 x) 0 (llq a.rs).length 1:=by
 obtain⟨tw,etw⟩:=d9 D.al.tr D.hc;unfold lC
 by_cases he:x.err≠0
 ·rw[aq7 he];exact uc _ _ _
 ·rw [aq6 he];refine ⟨by simp,lE ⟨⟨_,tw⟩,h3,lE (KJ hE D h3 h0 p0 hq).ok,by show 1 <= 2; omega⟩,?_⟩;intro n s hs
  match n,hs with
  |0,hs=>cases hs;exact⟨rfl,rfl,rfl⟩
theorem KB{E:Nat}(hE:E<=20000000000){l:Li}{k:Int}{a:As}{n:Nat}{g:Gr}{x:Tn}(D:DyW l a)(h3:(llq a.rs).length<=2)(ok:DyOk E l k a false n g)(hR:g.kind≠0->E=3900000/\DyS a)(hq:Qb 1000 x.t.q):SolP (fq l a g x) g.kind (llq a.rs).length g.bo.length:=by
 unfold fq
 by_cases gz:g.kind=0
 ·obtain⟨i,z0,d,j0,e,jB,p0⟩:=Ik ok gz;rw[aq7 gz,e];show SolP (lC l a i (l.jo.getD z0.toNat default) x) _ _ _;rw[ax jB];exact ad7 hE D h3 jB p0 hq
 ·rw[aq6 gz];obtain⟨rP,S⟩:=hR gz;subst rP;have D:DyR l a:=⟨D,S⟩
  have hn:=S.one D.hc
  by_cases f8:g.kind=1
  ·obtain⟨i,k2,z0,z1,z2,j0,j1,j2,P⟩:=ok.rrr f8;obtain⟨e0,e1,e2,b0,b1,_⟩:=P.at;rw[aq7 f8,e0,e1,e2,b0,b1,f8,P.eq];exact UO D hn P
  ·rw[aq6 f8]
   by_cases dj:g.kind=2
   ·obtain⟨i,z0,z1,j0,j,P,ha,hb⟩:=ok.pr dj;obtain⟨e0,e1,b0,_⟩:=P.at;rw[aq7 dj,e0,e1,b0,dj,P.eq];exact VK D hn P ha hb
   ·obtain⟨i,z0,z1,j0,j,P,_,hj,hb⟩:=ok.rp gz f8 dj;obtain⟨e0,e1,b0,qG⟩:=P.at;rw[aq6 dj,e0,e1,b0,qG,P.eq];exact ake D hn P hj hb
open Lean.Grind (CommRing)
structure Hm{ts:LL}{R:Type}[CommRing R](f:Et ts->R):Prop where
  add:∀x y,f (x+y)=f x+f y
  mul:∀x y,f (x*y)=f x*f y
  neg:∀x,f (-x)=-f x
  one:f 1=1
  inv:∀x,ao x≠0->f (iE x)*f x=1
  zero:∀x,f x=0↔ao x=0
section
variable{ts:LL}{R:Type}[CommRing R]{f:Et ts->R}(h:Hm f)
include h
theorem Hm.sub(x y:Et ts):f (x-y)=f x-f y:=by
 rw[show x-y=x+-y by grind,h.add,h.neg];grind
theorem Hm.nul:f 0=0:=by
 have e:=h.add 0 0;rw[show(0:Et ts)+0=0 by grind]at e;grind
theorem Hm.q1:f (qE ((1:Int):Rat))=1:=by rw[pF];exact h.one
theorem Hm.q4:f (qE 4)=4:=by
 have e:(qE 4:Et ts)=1+1+1+1:=by
  have e1:=vE (r:=aw ts) (n:=ts.length) 1 1;have e2:=vE (r:=aw ts) (n:=ts.length) 2 2;rw[show(1:Rat)+1=2 by decide +kernel]at e1;rw[show(2:Rat)+2=4 by decide +kernel,e1]at e2;rw[e2];have e3:(qE 1:Et ts)=1:=rfl;rw[e3];grind
 rw[e,h.add,h.add,h.add,h.one];grind
end
abbrev gY(ts:LL):Prop:=iz (aw ts) ts.length
theorem Zb{ts:LL}(hp:gY ts):Hm (aj hp:Et ts->Zq hp) :=
 ⟨fun _ _=>rfl,fun _ _=>rfl,fun _=>rfl,rfl,fun x hx=>Dk hp hx,fun x=>iO hp⟩
theorem abl{ts:LL}(X:Et ts)(hp:gY (aW ts (sX X))):Hm (fun x:Et ts=>aj hp (aP X x)) :=
  ⟨fun x y => by rw [vH]; rfl, fun x y => by rw [iy]; rfl, fun x => by rw [vR]; rfl,
   by have e := rZ X ((1 : Nat) : Rat)
      have e1:(qE ((1:Nat):Rat):Et ts)=1:=rfl;rw[e1]at e;rw[e];rfl,
   fun x hx=>by rw[tX];exact Dk hp (by show ao (aP X x)≠0;rw[tG];exact hx),
   fun x=>by rw[iO hp];show ao (aP X x)=0↔_;rw[tG]⟩
theorem JU(k:Nat):af (k+1) (dg k)=(T.zero k,T.ofQ k 1):=by
 have h1:(dg k).take (2^k)=ana (2^k) 0:=by
  unfold dg;rw[List.take_set_of_le (apu _),List.take_replicate];congr 1;have:=am0 (a:=2) oz (Nat.lt_succ_self k);omega
 have h2:(dg k).drop (2^k)=(1:Rat)::ana (2^k-1) 0:=by
  unfold dg;rw[List.drop_set,aq6 oz,Nat.sub_self,List.drop_replicate]
  have e:2^(k+1)-2^k=(2^k-1)+1:=by
   have h3:0<2^k:=al7 oz;have h4:2^(k+1)=2^k+2^k:=by rw[amp];omega
   omega
  rw[e,List.replicate_succ,List.set_cons_zero]
 show(af k _,af k _)=_;rw[h1,h2]
 have e1:af k (ana (2^k) (0:Rat))=T.zero k:=by
  rw[<- jM]
  exact tQ k (fun i _=>by
   rw[apq,apq,aql];split <;> rfl)
 have e2:af k ((1:Rat)::ana (2^k-1) 0)=T.ofQ k 1:=by
  rw[<- oF]
  exact tQ k (fun i _=>by
   cases i with
   |zero=>rfl
   |succ i =>
    rw[apq,apq,List.getElem?_cons_succ,aql];split <;> rfl)
 rw[e1,e2]
theorem Zi{n N:Nat}(hN:N=n+1){r:(k:Nat)->T k}(x:T n)(hx:r n=x):T.mul r N (af N (dg n)) (af N (dg n))=lV x:=by
 subst hN;rw[JU,nK];show(T.add n (T.mul r n (T.zero n) (T.zero n)) (T.mul r n (T.mul r n (T.ofQ n 1) (T.ofQ n 1)) (r n)),T.add n (T.mul r n (T.zero n) (T.ofQ n 1)) (T.mul r n (T.ofQ n 1) (T.zero n)))=_;have L:=sP r n;rw[L.one,L.one,T.zero_mul,T.zero_mul,T.zero_add,L.one,T.zero_add,hx]
theorem F4{ts:LL}(X:Et ts):bJ X*bJ X=aP X X:=by
 refine Zi (fp _ _) X ?_;show af ts.length ((aW ts (sX X)).getD ts.length [])=X;rw[zf,rS];exact bu _ _
section
variable{R:Type}[CommRing R]
theorem Yx{p1 p2 q1 q2 z z2 i t:R}(hi:i*(((p1-q1)*(p1-q1)+(p2-q2)*(p2-q2))+((p1-q1)*(p1-q1)+(p2-q2)*(p2-q2)))=1)
  (ht:t*t=4*(z*((p1-q1)*(p1-q1)+(p2-q2)*(p2-q2)))-((z+((p1-q1)*(p1-q1)+(p2-q2)*(p2-q2)))-z2)*((z+((p1-q1)*(p1-q1)+(p2-q2)*(p2-q2)))-z2))
  {x y:R} (hx:x=p1+((z+((p1-q1)*(p1-q1)+(p2-q2)*(p2-q2)))-z2)*i*(q1-p1)+t*(i*-(q2-p2))) (hy:y=p2+((z+((p1-q1)*(p1-q1)+(p2-q2)*(p2-q2)))-z2)*i*(q2-p2)+t*(i*(q1-p1))) :
  (x-p1)*(x-p1)+(y-p2)*(y-p2)=z/\(x-q1)*(x-q1)+(y-q2)*(y-q2)=z2:=by
 obtain⟨d,hd⟩:∃d,d=(p1-q1)*(p1-q1)+(p2-q2)*(p2-q2):=⟨_,rfl⟩
 rw[<- hd]at hi ht hx hy;obtain⟨a,ha⟩:∃a,a=z+d-z2:=⟨_,rfl⟩
 rw[<- ha]at ht hx hy;have e1:(x-p1)*(x-p1)+(y-p2)*(y-p2)=(a*a+t*t)*(i*i)*d:=by rw[hx,hy,hd];grind
 have e2:(a*a+t*t)*(i*i)*d=z:=by
  rw[ht];have:(a*a+(4*(z*d)-a*a))*(i*i)*d=z*(i*(d+d))*(i*(d+d)):=by grind
  rw[this,hi];grind
 have e3:(x-q1)*(x-q1)+(y-q2)*(y-q2)=((x-p1)*(x-p1)+(y-p2)*(y-p2))-a*(i*(d+d))+d:=by rw[hx,hy,hd];grind
 refine⟨e1.trans e2,?_⟩;rw[e3,e1,e2,hi,ha];grind
theorem aaj(e t i S:R):(e+t)*i*S=(e+t)*(i*S):=by grind
theorem abf(z i S W:R):i*S*z-i*(S*W)+W=z*(i*S)-(i*S)*W+W:=by grind
theorem ahy(z W:R):z*1-1*W+W=z:=by grind
theorem Zd(x:R):x*1=x:=by grind
theorem aeq(k e t S:R):k*k*S-(k*e+k*e)=k*(k*S)-(k*e+k*e):=by grind
theorem Wu(e t i:R):(e+t)*i*(e+t)-((e+t)*i*e+(e+t)*i*e)=i*(t*t-e*e):=by grind
theorem aaf{p1 p2 q1 q2 c1 c2 z i t k:R}(hi:i*((q1-p1)*(q1-p1)+(q2-p2)*(q2-p2))=1)
  (ht:t*t=((q1-p1)*(q1-p1)+(q2-p2)*(q2-p2))*z-((q1-p1)*(c2-p2)-(q2-p2)*(c1-p1))*((q1-p1)*(c2-p2)-(q2-p2)*(c1-p1)))
  (hk:k=((q1-p1)*(c1-p1)+(q2-p2)*(c2-p2)+t)*i)
  {x y:R} (hx:x=p1+k*(q1-p1)) (hy:y=p2+k*(q2-p2)) :
  (x-c1)*(x-c1)+(y-c2)*(y-c2)=z/\(q1-p1)*(y-p2)-(q2-p2)*(x-p1)=0:=by
 refine⟨?_,by rw[hx,hy];grind⟩;obtain⟨S,hS⟩:∃S,S=(q1-p1)*(q1-p1)+(q2-p2)*(q2-p2):=⟨_,rfl⟩
 obtain⟨e,he⟩:∃e,e=(q1-p1)*(c1-p1)+(q2-p2)*(c2-p2):=⟨_,rfl⟩
 obtain⟨C,hC⟩:∃C,C=(q1-p1)*(c2-p2)-(q2-p2)*(c1-p1):=⟨_,rfl⟩
 obtain⟨W,hW⟩:∃W,W=(c1-p1)*(c1-p1)+(c2-p2)*(c2-p2):=⟨_,rfl⟩
 rw[<- hS]at hi ht;rw[<- he]at hk;rw[<- hC]at ht;have e0:e*e+C*C=S*W:=by rw[he,hC,hS,hW];grind
 have e1:(x-c1)*(x-c1)+(y-c2)*(y-c2)=k*k*S-(k*e+k*e)+W:=by rw[hx,hy,hS,he,hW];grind
 have e2:k*S=e+t:=by rw[hk,aaj,hi,Zd]
 have e3:k*k*S-(k*e+k*e)+W=i*(t*t-e*e)+W:=by
  rw[aeq k e t S,e2,hk,Wu]
 rw[e1,e3,ht];have:i*(S*z-C*C-e*e)+W=i*S*z-i*(e*e+C*C)+W:=by grind
 rw[this,e0,abf,hi,ahy]
theorem ajm{W1 W2 N hh i t D w1 w2:R}(hD:D=W1*W1+W2*W2)(hi:i*D=1)(ht:t*t=N*D-hh*hh)
  (h1:w1=(t*W1-hh*-W2)*i) (h2:w2=(t*W2-hh*W1)*i):w1*w1+w2*w2=N/\w1*W2-w2*W1=hh:=by
 have e1:w1*w1+w2*w2=(t*t+hh*hh)*(i*D)*i:=by rw[h1,h2,hD];grind
 have e2:w1*W2-w2*W1=hh*(i*D):=by rw[h1,h2,hD];grind
 refine⟨?_,by rw[e2,hi];grind⟩;rw[e1,ht,hi];have:(N*D-hh*hh+hh*hh)*1*i=N*(i*D):=by grind
 rw[this,hi];grind
theorem Ru{u1 u2 w1 w2 n i c s:R}(hn:n=u1*u1+u2*u2)(hi:i*n=1)(hc:c=(u1*w1+u2*w2)*i)(hs:s=(u1*w2-u2*w1)*i) :
  (c*u1-s*u2=w1/\s*u1+c*u2=w2)/\(w1*w1+w2*w2=n->c*c+s*s=1):=by
 have e1:c*u1-s*u2=w1*(i*n):=by rw[hc,hs,hn];grind
 have e2:s*u1+c*u2=w2*(i*n):=by rw[hc,hs,hn];grind
 refine⟨⟨by rw[e1,hi];grind,by rw[e2,hi];grind⟩,fun hw=>?_⟩;have e3:c*c+s*s=(w1*w1+w2*w2)*(i*n)*i:=by rw[hc,hs,hn];grind
 rw[e3,hw,hi];rw[show n*1*i=i*n by grind,hi]
end
end Go.Lw
namespace Go.Lw
open Lean.Grind (CommRing)
def aB{ts:LL}(T:LL)(y:Et ts):Et T:=dE T (sX y)
structure Lf(ts T:LL):Prop where
  pos:gY T
  hm:Hm (fun y:Et ts=>aj pos (aB T y))
  low:∀l:List Rat,l.length<=2^ts.length->aB T (dE ts l)=dE T l
  q:∀q:Rat,aB T (qE q:Et ts)=qE q
  len:ts.length<=T.length
  sg:∀y:Et ts,ao (aB T y)=ao y
  ad:∀x y:Et ts,aB T (x+y)=aB T x+aB T y
  mu:∀x y:Et ts,aB T (x*y)=aB T x*aB T y
theorem eG{ts:LL}(y:Et ts):aB ts y=y:=bu _ _
theorem r8{ts:LL}(hp:gY ts):Lf ts ts:=by
 refine⟨hp,?_,fun l _=>eG _,fun q=>eG _,apu _,fun y=>by rw[eG],fun x y=>by rw[eG,eG,eG],fun x y=>by rw[eG,eG,eG]⟩;have e:(fun y:Et ts=>aj hp (aB ts y))=aj hp:=funext fun y=>by rw[eG]
 rw[e];exact Zb hp
theorem XR{n N:Nat}(hN:N=n+1){l:List Rat}(h:l.length<=2^n):af N (sh n (af n l))=af N l:=by
 subst hN;rw[jL (gk n _).le,bu,jL h]
theorem vT{ts:LL}(X:Et ts)(hp:gY (aW ts (sX X))):Lf ts (aW ts (sX X)) :=
 ⟨hp,abl X hp,fun l h=>XR (fp _ _) h,fun q=>rZ X q,by rw[fp];omega,fun y=>tG,fun x y=>vH X x y,fun x y=>iy X x y⟩
structure CirG(ts T:LL)(x:List Rat×List Rat)(p q:P2 ts)(z z2:Et ts):Prop where
  lf:Lf ts T
  c1:ao ((dE T x.1-aB T p.1)*(dE T x.1-aB T p.1)+(dE T x.2-aB T p.2)*(dE T x.2-aB T p.2)-aB T z)=0
  c2:ao ((dE T x.1-aB T q.1)*(dE T x.1-aB T q.1)+(dE T x.2-aB T q.2)*(dE T x.2-aB T q.2)-aB T z2)=0
section
variable{ts:LL}
theorem OL{R:Type}[CommRing R]{f:Et ts->R}(h:Hm f)(p q:P2 ts):f (aE p q)=(f p.1-f q.1)*(f p.1-f q.1)+(f p.2-f q.2)*(f p.2-f q.2):=by
 show f ((p.1-q.1)*(p.1-q.1)+(p.2-q.2)*(p.2-q.2))=_;rw[h.add,h.mul,h.mul,h.sub,h.sub]
theorem ZQ{R:Type}[CommRing R]{f:Et ts->R}(h:Hm f)(p q:P2 ts)(z z2:Et ts){D:R}(hD:f (aE p q)=D):f (bw p z q z2)=4*(f z*D)-((f z+D)-f z2)*((f z+D)-f z2):=by
 subst hD;unfold bw;rw[h.sub,h.mul,h.mul,h.mul,h.sub,h.add,h.q4]
theorem ahg{R:Type}[CommRing R]{f:Et ts->R}(h:Hm f){p q:P2 ts}{z z2:Et ts}(dP:ao (aE p q+aE p q)≠0){t:R}(ht:t*t=f (bw p z q z2)){x y:R}
  (hx:x=f (dH p q z z2).1+t*f (jU p q).1) (hy:y=f (dH p q z z2).2+t*f (jU p q).2) :
  (x-f p.1)*(x-f p.1)+(y-f p.2)*(y-f p.2)=f z/\(x-f q.1)*(x-f q.1)+(y-f q.2)*(y-f q.2)=f z2:=by
 have d:=OL h p q;have hi:=h.inv _ dP;rw[h.add,d]at hi;rw[ZQ h p q z z2 d]at ht;refine Yx hi ht ?_ ?_
 ·rw[hx,Ca];unfold cW jU;dsimp only;show f (p.1+qE ((1:Int):Rat)*iE (aE p q+aE p q)*(z+aE p q-z2)*(q.1-p.1))+t*f (qE ((1:Int):Rat)*iE (aE p q+aE p q)*(0-(q.2-p.2)))=_;simp only[h.add,h.mul,h.sub,h.q1,h.nul,d];generalize(f p.1-f q.1)*(f p.1-f q.1)+(f p.2-f q.2)*(f p.2-f q.2)=D;generalize f (iE (aE p q+aE p q))=i;clear ht hi hx hy;grind
 ·rw[hy,Ca];unfold cW jU;dsimp only;show f (p.2+qE ((1:Int):Rat)*iE (aE p q+aE p q)*(z+aE p q-z2)*(q.2-p.2))+t*f (qE ((1:Int):Rat)*iE (aE p q+aE p q)*(q.1-p.1))=_;simp only[h.add,h.mul,h.sub,h.q1,d];generalize(f p.1-f q.1)*(f p.1-f q.1)+(f p.2-f q.2)*(f p.2-f q.2)=D;generalize f (iE (aE p q+aE p q))=i;clear ht hi hx hy;grind
theorem NI{r:Nat}(tw:Tw ts r){d:Et ts}(hd:ao d≠0):ao (d+d)≠0:=by
 rw[<- HS,CC tw];exact hd
theorem Ih{T:LL}(L:Lf ts T){x:List Rat×List Rat}{p q:P2 ts}{z z2:Et ts}(dP:ao (aE p q+aE p q)≠0){t:Et T}(ht:aj L.pos (t*t)=aj L.pos (aB T (bw p z q z2)))
  (hx:dE T x.1=aB T (dH p q z z2).1+t*aB T (jU p q).1) (hy:dE T x.2=aB T (dH p q z z2).2+t*aB T (jU p q).2):CirG ts T x p q z z2:=by
 have g:=ahg L.hm dP (t:=aj L.pos t) ht (x:=aj L.pos (dE T x.1)) (y:=aj L.pos (dE T x.2)) (by rw[hx];rfl) (by rw[hy];rfl);refine⟨L,?_,?_⟩
 ·refine(iO L.pos).1 ?_;rw[cz,jG,co,co,cz,cz];have:=g.1;generalize aj L.pos (aB T z)=Z at *;generalize aj L.pos (aB T p.1)=P1 at *;generalize aj L.pos (aB T p.2)=P2 at *;rw[this];grind
 ·refine(iO L.pos).1 ?_;rw[cz,jG,co,co,cz,cz];have:=g.2;rw[this];grind
theorem fU{T:LL}(y:Et T):dE T (sX y)=y:=bu _ _
theorem agv{r:Nat}(tw:Tw ts r)(Jg:∀X:Et ts,0<ao X->gY (aW ts (sX X))){p q:P2 ts}{z z2:Et ts}(h0:gq p q z z2=0)(hz:0<ao z) :
  ∀x∈(d6 p q z z2).ps,CirG ts (d6 p q z z2).ts x p q z z2:=by
 intro x;unfold gq pZ at h0;unfold d6;split
 ·rename_i hd;rw[aq7 hd]at h0;unfold k9;split
  ·intro hx;cases hx
  ·intro hx;cases hx
 ·rename_i hd;have dP:=NI tw hd;split
  ·intro hx;cases hx
  ·rename_i hn;split
   ·rename_i hX;intro hx;rw[am8.1 hx];have hp:gY ts:=tw.pos;refine Ih (r8 hp) dP (t:=0) ?_ ?_ ?_
    ·refine((iO hp).2 ?_).trans ((iO hp).2 ?_).symm
     ·rw[show(0:Et ts)*0=0 by grind];exact(fZ _ _ hp).zero
     ·rw[eG];exact hX
    ·rw[eG,eG,fU];grind
    ·rw[eG,eG,fU];grind
   ·rename_i hX;have tp:0 < ao (bw p z q z2):=by omega
    have hp:=Jg _ tp;intro hx;have L:=vT (bw p z q z2) hp;have e:=F4 (bw p z q z2);rcases aqf.1 hx with rfl |hx
    ·refine Ih L dP (t := bJ (bw p z q z2)) (by rw [e]; rfl) ?_ ?_
     ·rw[fU];exact are Prod.fst (yM (bw p z q z2) (dH p q z z2) p q)
     ·rw[fU];exact are Prod.snd (yM (bw p z q z2) (dH p q z z2) p q)
    ·rw [am8.1 hx];refine Ih L dP (t:=-bJ (bw p z q z2)) (by rw [show -bJ (bw p z q z2) * -bJ (bw p z q z2) = bJ (bw p z q z2) * bJ (bw p z q z2) by grind,e]; rfl) ?_ ?_
     ·rw[fU,are Prod.fst (A7 (bw p z q z2) (dH p q z z2) p q)];show aP _ _-_*aP _ _=aP _ _+-_*aP _ _;grind
     ·rw[fU,are Prod.snd (A7 (bw p z q z2) (dH p q z z2) p q)];show aP _ _-_*aP _ _=aP _ _+-_*aP _ _;grind
structure LinG(ts T:LL)(x:List Rat×List Rat)(p q c:P2 ts)(z:Et ts):Prop where
  lf:Lf ts T
  c:ao ((dE T x.1-aB T c.1)*(dE T x.1-aB T c.1)+(dE T x.2-aB T c.2)*(dE T x.2-aB T c.2)-aB T z)=0
  l:ao ((aB T q.1-aB T p.1)*(dE T x.2-aB T p.2)-(aB T q.2-aB T p.2)*(dE T x.1-aB T p.1))=0
theorem Zk{R:Type}[CommRing R]{f:Et ts->R}(h:Hm f){p q c:P2 ts}{z:Et ts}(hd:ao (bq p q)≠0){t:R}(ht:t*t=f (aY p q c z)){x y:R}
  (hx:x=f (cW p (bW p q c*iE (bq p q)) (aT q p)).1+t*f (jP p q).1) (hy:y=f (cW p (bW p q c*iE (bq p q)) (aT q p)).2+t*f (jP p q).2) :
  (x-f c.1)*(x-f c.1)+(y-f c.2)*(y-f c.2)=f z/\(f q.1-f p.1)*(y-f p.2)-(f q.2-f p.2)*(x-f p.1)=0:=by
 have hi:=h.inv _ hd
 have eS:f (bq p q)=(f q.1-f p.1)*(f q.1-f p.1)+(f q.2-f p.2)*(f q.2-f p.2):=by
  show f ((q.1-p.1)*(q.1-p.1)+(q.2-p.2)*(q.2-p.2))=_;simp only[h.add,h.mul,h.sub]
 have eE:f (bW p q c)=(f q.1-f p.1)*(f c.1-f p.1)+(f q.2-f p.2)*(f c.2-f p.2):=by
  show f ((q.1-p.1)*(c.1-p.1)+(q.2-p.2)*(c.2-p.2))=_;simp only[h.add,h.mul,h.sub]
 have eC:f (iD p q c)=(f q.1-f p.1)*(f c.2-f p.2)-(f q.2-f p.2)*(f c.1-f p.1):=by
  show f ((q.1-p.1)*(c.2-p.2)-(q.2-p.2)*(c.1-p.1))=_;simp only[h.mul,h.sub]
 have eX:f (aY p q c z)=f (bq p q)*f z-f (iD p q c)*f (iD p q c):=by
  show f (bq p q*z-iD p q c*iD p q c)=_;simp only[h.mul,h.sub]
 rw[eX,eC,eS]at ht;rw[eS]at hi;refine aaf hi ht (k:=(f (bW p q c)+t)*f (iE (bq p q))) (by rw[eE]) ?_ ?_
 ·rw[hx];unfold cW jP;show f (p.1+bW p q c*iE (bq p q)*(q.1-p.1))+t*f (qE ((1:Int):Rat)*iE (bq p q)*(q.1-p.1))=_;simp only[h.add,h.mul,h.sub,h.q1];generalize f (iE (bq p q))=i;generalize f (bW p q c)=e;clear ht hi hx hy eS eE eC eX;grind
 ·rw[hy];unfold cW jP;show f (p.2+bW p q c*iE (bq p q)*(q.2-p.2))+t*f (qE ((1:Int):Rat)*iE (bq p q)*(q.2-p.2))=_;simp only[h.add,h.mul,h.sub,h.q1];generalize f (iE (bq p q))=i;generalize f (bW p q c)=e;clear ht hi hx hy eS eE eC eX;grind
theorem Ed{T:LL}(L:Lf ts T){x:List Rat×List Rat}{p q c:P2 ts}{z:Et ts}(hd:ao (bq p q)≠0){t:Et T}(ht:aj L.pos (t*t)=aj L.pos (aB T (aY p q c z)))
  (hx:dE T x.1=aB T (cW p (bW p q c*iE (bq p q)) (aT q p)).1+t*aB T (jP p q).1) (hy:dE T x.2=aB T (cW p (bW p q c*iE (bq p q)) (aT q p)).2+t*aB T (jP p q).2):LinG ts T x p q c z:=by
 have g:=Zk L.hm hd (t:=aj L.pos t) ht (x:=aj L.pos (dE T x.1)) (y:=aj L.pos (dE T x.2)) (by rw[hx];rfl) (by rw[hy];rfl);refine⟨L,?_,?_⟩
 ·refine(iO L.pos).1 ?_;rw[cz,jG,co,co,cz,cz];have:=g.1;rw[this];grind
 ·refine(iO L.pos).1 ?_;rw[cz,co,co,cz,cz,cz,cz];exact g.2
theorem Wt{r:Nat}(tw:Tw ts r)(Jg:∀X:Et ts,0<ao X->gY (aW ts (sX X))){p q c:P2 ts}{z:Et ts}(h0:gd p q=0) :
  ∀x∈(eg p q c z).ps,LinG ts (eg p q c z).ts x p q c z:=by
 intro x;unfold gd at h0;unfold eg;split
 ·intro hx;cases hx
 ·rename_i hd;split
  ·intro hx;cases hx
  ·rename_i hn;split
   ·rename_i hX;intro hx;rw[am8.1 hx];have hp:gY ts:=tw.pos;refine Ed (r8 hp) hd (t:=0) ?_ ?_ ?_
    ·refine((iO hp).2 ?_).trans ((iO hp).2 ?_).symm
     ·rw[show(0:Et ts)*0=0 by grind];exact(fZ _ _ hp).zero
     ·rw[eG];exact hX
    ·rw[eG,eG,fU];grind
    ·rw[eG,eG,fU];grind
   ·rename_i hX
    have tp:0<ao (aY p q c z):=by
     rcases(fZ _ _ tw.pos).cs (aY p q c z)with g |g |g
     ·exact ard g hn
     ·exact ard g hX
     ·show 0<sg _ _ _;rw[g];decide
    have hp:=Jg _ tp;intro hx;have L:=vT (aY p q c z) hp;have e:=F4 (aY p q c z);rcases aqf.1 hx with rfl |hx
    ·refine Ed L hd (t := bJ (aY p q c z)) (by rw [e]; rfl) ?_ ?_
     ·rw[fU];exact are Prod.fst (AY (aY p q c z) p q c)
     ·rw[fU];exact are Prod.snd (AY (aY p q c z) p q c)
    ·rw [am8.1 hx];refine Ed L hd (t:=-bJ (aY p q c z)) (by rw [show -bJ (aY p q c z) * -bJ (aY p q c z) = bJ (aY p q c z) * bJ (aY p q c z) by grind,e]; rfl) ?_ ?_
     ·rw[fU,are Prod.fst (CP (aY p q c z) p q c)];show aP _ _-_*aP _ _=aP _ _+-_*aP _ _;grind
     ·rw[fU,are Prod.snd (CP (aY p q c z) p q c)];show aP _ _-_*aP _ _=aP _ _+-_*aP _ _;grind
end
end Go.Lw
namespace Go.Lw
theorem Eh(r:(k:Nat)->T k)(q:Rat):∀(k:Nat){a c:List Rat},(∀i,i<2^k->c.getD i 0=q*a.getD i 0)->af k c=T.mul r k (T.ofQ k q) (af k a)
 |0,a,c,h=>h 0 (by decide)
 |k+1,a,c,h=>by
  have h1:=Eh r q k (a:=a.take (2^k)) (c:=c.take (2^k)) (fun i hi=>by rw[oN,oN,aq7 hi,aq7 hi];exact h i (by rw[amp];omega));have h2:=Eh r q k (a:=a.drop (2^k)) (c:=c.drop (2^k)) (fun i hi=>by rw[o5,o5];exact h _ (by rw[amp];omega));show(af k (c.take (2^k)),af k (c.drop (2^k)))=T.mul r (k+1) (T.ofQ k q,T.zero k) (af k (a.take (2^k)),af k (a.drop (2^k)));rw[T.mul_comm,T.mul_half,h1,h2,T.mul_comm r k (af k (a.take _)),T.mul_comm r k (af k (a.drop _))]
section
variable{ts:LL}
def Bz(e:Nat)(x:Et ts):Prop:=Nm ts.length e (sX x)
theorem Bz.mono{e f:Nat}{x:Et ts}(h:Bz e x)(hf:e<=f):Bz f x:=Nm.mono h hf
theorem Bz.add{e f:Nat}{x y:Et ts}(hx:Bz e x)(hy:Bz f y):Bz (e+f+1) (x+y):=Nm.addT hx hy
theorem Bz.sub{e f:Nat}{x y:Et ts}(hx:Bz e x)(hy:Bz f y):Bz (e+f+1) (x-y):=Nm.subT hx hy
theorem Bz.neg{e:Nat}{x:Et ts}(hx:Bz e x):Bz e (-x):=Nm.negT hx
theorem Bz.mul{r K e f:Nat}(tw:Tw ts r)(hK:eB r ts.length<=K){x y:Et ts}(hx:Bz e x)(hy:Bz f y):Bz (e+f+K) (x*y):=by
 have h:=Nm.mul tw rfl hx hy;have e1:∀z:Et ts,af ts.length (sX z)=z:=fun z=>bu _ _
 rw[e1,e1]at h;exact Nm.mono h (Nat.add_le_add_left hK _)
theorem Bz.q{e:Nat}{q:Rat}(h5:ts.length<=5)(hq:Cb e [q]):Bz e (qE q:Et ts):=by
 unfold Bz;rw[Af];exact Nm.ofQ h5 hq
theorem Bz.qm{e f:Nat}{q:Rat}{x:Et ts}(hq:Cb e [q])(hx:Bz f x):Bz (e+f) (qE q*x):=by
 obtain⟨D,N,h1,h2,h3⟩:=hq;obtain⟨D',N',k1,k2,k3⟩:=hx.cb;obtain⟨n,hn,hN⟩:=h1.2 q (am8.2 rfl);have o9:af ts.length (sX x)=x:=bu _ _
 have hd:af ts.length ((sX x).map (q*·))=T.mul (aw ts) ts.length (T.ofQ ts.length q) (af ts.length (sX x)):=Eh _ q _ (fun i _=>by
  rw[apq,apv,apq];cases(sX x)[i]? with
  |none=>exact(Rat.mul_zero q).symm
  |some v=>rfl)
 rw[o9]at hd
 have hc:Cb (e+f) ((sX x).map (q*·)):=by
  refine⟨D*D',N*N',⟨aml h1.1 k1.1,?_⟩,?_,?_⟩
  ·intro z hz;obtain⟨y,hy,rfl⟩:=anx.1 hz;obtain⟨m,hm,hM⟩:=k1.2 y hy;refine⟨n*m,?_,?_⟩
   ·rw[Int.natCast_mul,aor,aor,<- hn,<- hm];grind
   ·rw[an9];exact alz hN hM
  ·rw[aqs];exact alz h2 k2
  ·rw[aqs];exact alz h3 k3
 have fI:Nl ts.length ((sX x).map (q*·)):=by
  rcases hx.nl with h |⟨j,hj,h⟩
  ·exact .inl (by rw[h];rfl)
  ·exact .inr ⟨j,hj,by rw[apr];exact h⟩
 refine⟨hx.five,gk _ _,?_⟩;have:=hc.sh fI;rw[hd]at this;exact this
theorem Bz.mq{e f:Nat}{q:Rat}{x:Et ts}(hx:Bz f x)(hq:Cb e [q]):Bz (e+f) (x*qE q):=by
 rw[show x*qE q=qE q*x by grind];exact hx.qm hq
theorem Bz.iq{e f:Nat}{q:Rat}{x:Et ts}(hx:Bz f x)(hq:Cb e [q])(h0:q≠0):Bz (e+f) (x*iE (qE q)):=by
 have h:(iE (qE q):Et ts)=qE (1/q):=CB _ _ q;rw[h];exact hx.mq (hq.inv1 h0)
theorem Bz.iv{r f j I:Nat}{y:Et ts}(tw:Tw ts r)(hy:Bz f y)(nb:Nl j (sX y))(hj:j<=ts.length)(h0:ao y≠0)(hI:iB r j f<=I)(hs:I<=50000000000):Bz I (iE y):=by
 have hf:=GM r j f;have hl:=mD ts.length;have e1:af ts.length (sX y)=y:=bu _ _;obtain⟨L,_,k2,k3,k4⟩:=Hg (b:=sX y) tw hy hj nb (by rw[e1];exact h0) oz oz;rw[e1]at k4;have:=k3.sh k2;rw[k4]at this;exact⟨tw.five,gk _ _,this.mono hI⟩
structure Pz(n ec ex:Nat)(p:Pq):Prop where
  c:Nm n ec p.c
  s:Nm n ec p.s
  x:Nm n ex p.x
  y:Nm n ex p.y
theorem Pz.mono{n n' a b a' b':Nat}{p:Pq}(h:Pz n a b p)(hn:n<=n')(h5:n'<=5)(ha:a<=a')(hb:b<=b'):Pz n' a' b' p :=
 ⟨⟨h5,h.c.nl.mono hn,h.c.cb.mono ha⟩,⟨h5,h.s.nl.mono hn,h.s.cb.mono ha⟩,⟨h5,h.x.nl.mono hn,h.x.cb.mono hb⟩,⟨h5,h.y.nl.mono hn,h.y.cb.mono hb⟩⟩
theorem Q3{s t e f:Nat}{u p:Rat×Rat}{w o:P2 ts}(hu:Sm t u)(hp:Sm s p)(h0:cr u u≠0)(w1:Bz e w.1)(w2:Bz e w.2)(o1:Bz f o.1)(o2:Bz f o.2) :
  Pz ts.length (2*e+6*t+2) (f+4*e+12*t+2*s+6) (gM u w p o):=by
 have u1:=Cb.one hu.x;have u2:=Cb.one hu.y;have p1:=Cb.one hp.x;have p2:=Cb.one hp.y;have n:=Cb.one (hu.dot hu);have c:=(((w1.qm u1).add (w2.qm u2)).iq n h0).mono (f:=2*e+6*t+2) oz;have d:=(((w2.qm u1).sub (w1.qm u2)).iq n h0).mono (f:=2*e+6*t+2) oz;exact⟨c,d,(o1.sub ((c.mq p1).sub (d.mq p2))).mono oz,(o2.sub ((d.mq p1).add (c.mq p2))).mono oz⟩
theorem vg{a:List Rat}{e:Nat}(h:Nm ts.length e a):Bz e (dE ts a):=by
 have:=h.cb.sh h.nl;exact⟨h.five,gk _ _,this⟩
theorem Xr{s f:Nat}{p:Rat×Rat}{c d:Rat}{o:P2 ts}{g:Nat}(hc:Cb g [c])(hd:Cb g [d])(hp:Sm s p)(h5:ts.length<=5)(o1:Bz f o.1)(o2:Bz f o.2) :
  Pz ts.length (g+1) (f+2*g+2*s+4) (gM (((1:Int):Rat),0) ((qE c,qE d):P2 ts) p o):=by
 have e0:∀x:Et ts,(qE ((1:Int):Rat):Et ts)*x=x:=fun x=>by
  have:(qE ((1:Int):Rat):Et ts)=1:=rfl;rw[this];grind
 have e1:∀x:Et ts,(qE (0:Rat):Et ts)*x=0:=fun x=>by
  have:(qE (0:Rat):Et ts)=0:=rfl;rw[this];grind
 have e2:(iE (lQ (((1:Int):Rat),0)):Et ts)=1:=by
  show iE (qE (cr (((1:Int):Rat),0) (((1:Int):Rat),0)))=_;rw[show cr (((1:Int):Rat),(0:Rat)) (((1:Int):Rat),(0:Rat))=1 by decide +kernel];exact GY
 have ec:dM (((1:Int):Rat),0) ((qE c,qE d):P2 ts)=qE c:=by
  unfold dM;rw[e0,e1,e2];grind
 have ed:dz (((1:Int):Rat),0) ((qE c,qE d):P2 ts)=qE d:=by
  unfold dz;rw[e0,e1,e2];grind
 have p1:=Cb.one hp.x;have p2:=Cb.one hp.y;have c1:Bz g (qE c:Et ts):=Bz.q h5 hc;have d1:Bz g (qE d:Et ts):=Bz.q h5 hd;refine⟨?_,?_,?_,?_⟩
 ·show Bz _ (dM _ _);rw[ec];exact c1.mono oz
 ·show Bz _ (dz _ _);rw[ed];exact d1.mono oz
 ·show Bz _ (qN _ _ p o);unfold qN;rw[ec,ed];exact(o1.sub ((c1.mq p1).sub (d1.mq p2))).mono oz
 ·show Bz _ (rv _ _ p o);unfold rv;rw[ec,ed];exact(o2.sub ((d1.mq p1).add (c1.mq p2))).mono oz
structure Xz(ts:LL)(r X:Nat)(us:LL):Prop where
  tw:Tw us (r+X)
  up:ts.length<=us.length
  ln:us.length<=ts.length+1
theorem Fg{r X:Nat}(tw:Tw ts r)(hx:r+X<=5000000000):Xz ts r X ts:=⟨⟨tw.three,tw.len,tw.pos,tw.rb.mono oz,hx⟩,apu _,by omega⟩
theorem Cr{r X:Nat}(tw:Tw ts r)(hn:ts.length<=1)(hx:r+X<=5000000000){x:Et ts}(h:Bz X x)(hs:0<=ao x):Xz ts r X (aW ts (sX x)) :=
 ⟨HV tw oz h hx (by rw[show af ts.length (sX x)=x from bu _ _];exact hs),by rw[fp];omega,by rw[fp];omega⟩
theorem Bz.up{e:Nat}{X x:Et ts}(h:Bz e x)(hn:ts.length<=1):Bz e (aP X x):=by
 have h1:Nm (aW ts (sX X)).length e (sX x):=q8 h oz;exact vg h1
structure Szs(n r a b X K K' I J:Nat):Prop where
  n1:n<=1
  hK:eB r n<=K
  hX:24*a+8*K+5*b+23<=X
  hL:r+X<=5000000000
  hK':eB (r+X) (n+1)<=K'
  hI:iB r n (8*a+2*K+8)<=I
  hJ:iB (r+X) n (8*a+2*K+8)<=J
  hJ':J<=50000000000
  kk:K<=K'
  ij:I<=J
theorem Szs.kx{n r a b X K K' I J:Nat}(h:Szs n r a b X K K' I J){us:LL}(hu:us.length<=n+1):eB (r+X) us.length<=K':=aqe (kR _ hu) h.hK'
section
variable{r a b X K K' I J:Nat}(Z:Szs ts.length r a b X K K' I J)(tw:Tw ts r)
include Z tw
theorem H6{p q:P2 ts}(p1:Bz a p.1)(p2:Bz a p.2)(q1:Bz a q.1)(q2:Bz a q.2):Bz (8*a+2*K+5) (cJ (aT q p) (aT q p)):=by
 have v1:=q1.sub p1;have v2:=q2.sub p2;exact((v1.mul tw Z.hK v1).add (v2.mul tw Z.hK v2)).mono oz
theorem Ez{y:Et ts}(hy:Bz (8*a+2*K+8) y)(h0:ao y≠0):Bz I (iE y) :=
 hy.iv tw (gk _ _) (apu _) h0 Z.hI (by have:=Z.ij;have:=Z.hJ';omega)
theorem Iq{x y:Et ts}(hx:Bz X x)(hs:0<=ao x)(hy:Bz (8*a+2*K+8) y)(h0:ao y≠0):Bz J (iE (aP x y)):=by
 have E:=Cr tw Z.n1 Z.hL hx hs
 have e1:sX (aP x y)=sX y:=by
  have:=(BD (X:=x) Z.n1 _ y hy).2;exact this
 refine(hy.up Z.n1).iv E.tw (j:=ts.length) (by rw[e1];exact gk _ _) E.up (by rw[tG];exact h0) Z.hJ Z.hJ'
theorem HK{x:Et ts}:Bz 1 (dE (aW ts (sX x)) (dg ts.length)):=by have _:=tw;exact vg (yP (by have:=Z.n1;omega))
theorem WK{p q:P2 ts}{z z2:Et ts}(p1:Bz a p.1)(p2:Bz a p.2)(q1:Bz a q.1)(q2:Bz a q.2)(hz:Bz b z)(jy:Bz b z2)(h0:gq p q z z2=0) :
  Xz ts r X (d6 p q z z2).ts/\∀m∈(d6 p q z z2).ps,Nm (d6 p q z z2).ts.length (13*a+2*b+5*K+2*K'+I+J+20) m.1/\Nm (d6 p q z z2).ts.length (13*a+2*b+5*K+2*K'+I+J+20) m.2:=by
 have hn:=Z.n1;have fc:=Z.kk;have hd:Bz (8*a+2*K+5) (aE p q):=H6 Z tw (p:=q) (q:=p) q1 q2 p1 p2;have hm:=(hz.add hd).sub jy;have q4:Cb 3 [((4:Int):Rat)]:=Cb.int (z:=4) (by decide);have q2':Cb 2 [((2:Int):Rat)]:=Cb.int (z:=2) (by decide);have qm1:Cb 1 [((-1:Int):Rat)]:=Cb.int (z:=-1) (by decide)
 have hX:Bz X (bw p z q z2):=by
  have h:=((hz.mul tw Z.hK hd).qm q4).sub (hm.mul tw Z.hK hm);have h2:=h.mono (f:=X) (by have:=Z.hX;omega);exact h2
 have same:=Fg (X:=X) tw Z.hL;have v1:=q1.sub p1;have v2:=q2.sub p2;unfold gq pZ at h0;unfold d6 k9
 by_cases hs:ao (aE p q)=0
 ·rw[aq7 hs]at h0 ⊢
  by_cases dl:ao (z-z2)≠0
  ·rw[aq7 dl];exact⟨same,fun m hm=>by cases hm⟩
  ·rw[aq6 dl]
   by_cases hp:0<ao z
   ·rw[aq7 ⟨apn.1 dl,hp⟩]at h0;cases h0
   ·rw[aq6 hp]
    have n0:Bz 0 (0:Et ts):=by
     have:=Bz.q (ts:=ts) (e:=0) (q:=0) oz (Cb.int (z:=0) (by decide));exact this
    refine⟨same,lE ⟨?_,?_⟩⟩
    ·exact(p1.add (n0.mul tw Z.hK p1)).mono (f:=13*a+2*b+5*K+2*K'+I+J+20) oz
    ·exact(p2.add (n0.mul tw Z.hK p2)).mono (f:=13*a+2*b+5*K+2*K'+I+J+20) oz
 ·rw [aq6 hs];have tm:ao (gp (aE p q)) ≠ 0:=by rw [CC tw]; exact hs
  have ht:Bz (8*a+2*K+8) (gp (aE p q)):=Bz.mono (e:=2+(8*a+2*K+5)) (hd.qm q2') oz
  by_cases ik:ao (bw p z q z2)<0
  ·rw[aq7 ik];exact⟨same,fun m hm=>by cases hm⟩
  ·rw[aq6 ik];have hk:=hm.mul tw Z.hK (Ez Z tw ht tm);have f1:Bz (11*a+2*b+4*K+I+10) (dH p q z z2).1:=(p1.add (hk.mul tw Z.hK v1)).mono oz;have f2:Bz (11*a+2*b+4*K+I+10) (dH p q z z2).2:=(p2.add (hk.mul tw Z.hK v2)).mono oz
   by_cases mh:ao (bw p z q z2)=0
   ·rw[aq7 mh];exact⟨same,lE ⟨f1.mono oz,f2.mono oz⟩⟩
   ·rw [aq6 mh];have jR:0 <= ao (bw p z q z2):=by omega
    have E:=Cr tw hn Z.hL hX jR;have jC:=Z.kx E.ln;have s1:=(HK Z tw (x:=bw p z q z2)).mul E.tw jC (Iq Z tw hX jR ht tm);have s2:=s1.qm qm1;have w1:=(v2.up (X:=bw p z q z2) hn).qm qm1;have w2:=v1.up (X:=bw p z q z2) hn;have g1:=f1.up (X:=bw p z q z2) hn;have g2:=f2.up (X:=bw p z q z2) hn;exact⟨E,qj ⟨(g1.add (s1.mul E.tw jC w1)).mono oz,(g2.add (s1.mul E.tw jC w2)).mono oz⟩ ⟨(g1.add (s2.mul E.tw jC w1)).mono oz,(g2.add (s2.mul E.tw jC w2)).mono oz⟩⟩
theorem Vj{p q o:P2 ts}{z:Et ts}(p1:Bz a p.1)(p2:Bz a p.2)(q1:Bz a q.1)(q2:Bz a q.2)(o1:Bz a o.1)(o2:Bz a o.2)(hz:Bz b z)(h0:gd p q=0) :
  Xz ts r X (eg p q o z).ts/\∀m∈(eg p q o z).ps,Nm (eg p q o z).ts.length (13*a+2*b+5*K+2*K'+I+J+20) m.1/\Nm (eg p q o z).ts.length (13*a+2*b+5*K+2*K'+I+J+20) m.2:=by
 have hn:=Z.n1;have fc:=Z.kk;have hS:=(H6 Z tw p1 p2 q1 q2)
 have v1:=q1.sub p1;have v2:=q2.sub p2;have w1:=o1.sub p1;have w2:=o2.sub p2;have hE:Bz (8*a+2*K+5) (bW p q o):=((v1.mul tw Z.hK w1).add (v2.mul tw Z.hK w2)).mono oz;have hC:Bz (8*a+2*K+5) (iD p q o):=((v1.mul tw Z.hK w2).sub (v2.mul tw Z.hK w1)).mono oz;have hX:Bz X (aY p q o z):=((hS.mul tw Z.hK hz).sub (hC.mul tw Z.hK hC)).mono (by have:=Z.hX;omega);have same:=Fg (X:=X) tw Z.hL;unfold gd at h0;unfold eg
 by_cases hs:ao (bq p q)=0
 ·rw[aq7 hs]at h0;cases h0
 ·rw[aq6 hs]
  by_cases h1:ao (aY p q o z)=-1
  ·rw[aq7 h1];exact⟨same,fun m hm=>by cases hm⟩
  ·rw[aq6 h1]
   by_cases h2:ao (aY p q o z)=0
   ·rw[aq7 h2];have hk:=hE.mul tw Z.hK (Ez Z tw (hS.mono oz) hs);exact⟨same,lE ⟨(p1.add (hk.mul tw Z.hK v1)).mono (f:=13*a+2*b+5*K+2*K'+I+J+20) oz,(p2.add (hk.mul tw Z.hK v2)).mono (f:=13*a+2*b+5*K+2*K'+I+J+20) oz⟩⟩
   ·rw[aq6 h2]
    have jR:0<=ao (aY p q o z):=by
     have:=T.sgn_cases (aw ts) ts.length (aY p q o z);have e:ao (aY p q o z)=T.sgn (aw ts) ts.length (aY p q o z):=rfl;omega
    have E:=Cr tw hn Z.hL hX jR;have jC:=Z.kx E.ln;have hi:=Iq Z tw hX jR (hS.mono oz) hs;have rt:=HK Z tw (x:=aY p q o z);have k1:=((hE.up (X:=aY p q o z) hn).add rt).mul E.tw jC hi;have k2:=((hE.up (X:=aY p q o z) hn).sub rt).mul E.tw jC hi;have g1:=p1.up (X:=aY p q o z) hn;have g2:=p2.up (X:=aY p q o z) hn;have u1:=v1.up (X:=aY p q o z) hn;have u2:=v2.up (X:=aY p q o z) hn;exact⟨E,qj ⟨(g1.add (k1.mul E.tw jC u1)).mono oz,(g2.add (k1.mul E.tw jC u2)).mono oz⟩ ⟨(g1.add (k2.mul E.tw jC u1)).mono oz,(g2.add (k2.mul E.tw jC u2)).mono oz⟩⟩
end
end
def Cs(s:Nat)(l:Li):Prop:=∀b∈l.bo,∀m∈b.pts,Qb s m.x.q/\Qb s m.y.q
section
variable{s:Nat}{l:Li}(hl:l.ok)(au:aG l=0)(cB:Cs s l)
include hl au cB
theorem zx{body pt:Int}(h1:bR body l.bo.length=true)(h2:bR pt (dm l body).length=true):Sm s (aX l body pt):=by
 obtain⟨n,k,bd,m,h⟩:=vY hl au h1 h2;obtain⟨c1,c2⟩:=cB bd (apo h.gbd) m (apo h.gm);rw[h.ex,bN]at c1;rw[h.ey,bN]at c2;exact⟨c1,c2⟩
theorem uI{i:Nat}{j:Jt}(hj:l.jo[i]?=some j){b:Int}(h:j.a=b\/j.b=b):Sm s (am l j b):=by
 obtain⟨i1,i2,i3,i4,_⟩:=ee au hj;unfold am
 by_cases e:j.a=b
 ·rw[aq7 e];subst e;exact zx hl au cB i1 i3
 ·rw[aq6 e];rcases h with h |h
  ·exact ard h e
  ·subst h;exact zx hl au cB i2 i4
theorem yK{E r K:Nat}{a:As}(al:AB a)(hc:bS a.rs=0)(tw:Tw (llq a.rs) r)(hK:eB r (llq a.rs).length<=K){body pt:Int}(h1:bR body l.bo.length=true)(h2:bR pt (dm l body).length=true)(hb:Pd E a body) :
  Bz (3*E+2*s+2*K+10) (bi l a body pt).1/\Bz (3*E+2*s+2*K+10) (bi l a body pt).2:=by
 obtain⟨n,k,bd,m,b,hp⟩:=zy hl au al hc h1 h2 hb;obtain⟨c1,c2⟩:=cB bd (apo hp.mp.gbd) m (apo hp.mp.gm);have h:=Dq tw hp.ok c1 c2;have hk:kB r (llq a.rs).length<=K:=hK;unfold bi Bz;rw[hp.eq];exact⟨h.1.mono oz,h.2.mono oz⟩
theorem yp{E r K:Nat}{a:As}(al:AB a)(hc:bS a.rs=0)(tw:Tw (llq a.rs) r)(hK:eB r (llq a.rs).length<=K){i:Nat}{j:Jt}(hj:l.jo[i]?=some j){b:Int}(h:PinP E l a j b) :
  Bz (3*E+2*s+2*K+10) (aC l a j b).1/\Bz (3*E+2*s+2*K+10) (aC l a j b).2:=by
 obtain⟨i1,i2,i3,i4,_⟩:=ee au hj;unfold aC;rcases h.tie with⟨e,hb⟩ |⟨e,e2,hb⟩
 ·rw[aq7 e];exact yK hl au cB al hc tw hK i2 i4 hb
 ·rw[aq6 e];exact yK hl au cB al hc tw hK i1 i3 hb
end
theorem Bz.upX{ts us:LL}{e:Nat}{x:Et ts}(h:Bz e x)(h1:ts.length<=us.length)(h5:us.length<=5):Bz e (dE us (sX x)):=vg ⟨h5,Nl.mono h.nl h1,h.cb⟩
theorem GT{s:Nat}{p q:Rat×Rat}(hp:Sm s p)(hq:Sm s q):Cb (8*s+5) [bI p q]:=by
 have h:=(hp.sub hq).dot (hp.sub hq);exact Cb.one (h.mono oz)
abbrev wZ(a b K K' I J:Nat):Nat:=14*a+3*b+5*K+3*K'+I+J+25
abbrev oZ(s a b K K' I J:Nat):Nat:=a+4*wZ a b K K' I J+26*s+18
theorem GA{n a b ec ex e:Nat}{p:Pq}(h:Pz n ec ex p)(h1:ec<=e)(h2:ex<=e):Pq.ok n e p:=⟨h.c.mono h1,h.s.mono h1,h.x.mono h2,h.y.mono h2⟩
section
variable{ts:LL}{r a b X K K' I J:Nat}(Z:Szs ts.length r a b X K K' I J)(tw:Tw ts r)
include Z tw
theorem MZ{s:Nat}{m:Mt}(hx:Xz ts r X m.ts)(hm:∀x∈m.ps,Nm m.ts.length (13*a+2*b+5*K+2*K'+I+J+20) x.1/\Nm m.ts.length (13*a+2*b+5*K+2*K'+I+J+20) x.2){hs:List Hd}
  (hh:∀h∈hs,Sm s h.p/\Sm s h.c/\cr (cf h.c h.p) (cf h.c h.p)≠0/\∃o:P2 ts,h.a=P2.l o/\Bz a o.1/\Bz a o.2) :
  ∀sv∈gj m hs,Xz ts r X sv.ts/\∀p∈sv.ps,Pq.ok sv.ts.length (oZ s a b K K' I J) p:=by
 have _:=Z;have _:=tw;intro sv h1;unfold gj at h1;obtain⟨i,hi,rfl⟩:=anx.1 h1;obtain⟨x,lL⟩:=ay (an2.1 hi);obtain⟨n1,n2⟩:=hm x (apo lL);refine⟨hx,fun p hp=>?_⟩;unfold kO at hp;rw[ax lL]at hp;obtain⟨h,h2,rfl⟩:=anx.1 hp;obtain⟨tl,jz,h0,o,ea,o1,o2⟩:=hh h h2;have h5:=hx.tw.five;have u1:=o1.upX hx.up h5;have u2:=o2.upX hx.up h5;have w1:=vg n1;have w2:=vg n2;have e1:h.a.1=sX o.1:=by rw[ea]
 have e2:h.a.2=sX o.2:=by rw[ea]
 have z:=Q3 (ts:=m.ts) (u:=cf h.c h.p) (p:=h.p) (w:=kE m.ts h x) (o:=mW m.ts h) (e:=13*a+2*b+5*K+2*K'+I+J+20+a+1) (f:=a) (jz.sub tl) tl h0
  (by unfold kE;rw[e1];exact w1.sub u1) (by unfold kE;rw[e2];exact w2.sub u2) (by unfold mW;rw[e1];exact u1) (by unfold mW;rw[e2];exact u2)
 exact GA (a:=a) (b:=b) z (by show _<=a+4*(14*a+3*b+5*K+3*K'+I+J+25)+26*s+18;omega) (by show _<=a+4*(14*a+3*b+5*K+3*K'+I+J+25)+26*s+18;omega)
theorem YW{s:Nat}{us:LL}(hx:Xz ts r X us){R:Rp}{q:List Rat}(hv:Sm (2*s+1) R.v)(hp:Sm s R.p)(h0:cr R.v R.v≠0)(hq:Bz 1 (dE us q))(w1:Bz (2*a+1) (dE us R.w.1))(w2:Bz (2*a+1) (dE us R.w.2))(hh:Bz b (dE us R.h))
  (hd:Bz J (iE (dE us R.d))) (a1:Bz a (dE us R.a.1)) (a2:Bz a (dE us R.a.2)):Pq.ok us.length (oZ s a b K K' I J) (pO us R q):=by
 have _:=tw;have jC:=Z.kx hx.ln;have x1:=(((hq.mul hx.tw jC w1).sub (hh.mul hx.tw jC w2.neg)).mul hx.tw jC hd)
 have x2:=(((hq.mul hx.tw jC w2).sub (hh.mul hx.tw jC w1)).mul hx.tw jC hd)
 have z:=Q3 (ts:=us) (u:=R.v) (p:=R.p) (w:=mL us q R.h R.d R.w) (o:=(dE us R.a.1,dE us R.a.2)) (e:=wZ a b K K' I J) (f:=a) hv hp h0
  (x1.mono (by show _<=14*a+3*b+5*K+3*K'+I+J+25;omega)) (x2.mono (by show _<=14*a+3*b+5*K+3*K'+I+J+25;omega)) a1 a2
 exact GA (a:=a) (b:=b) z (by show _<=a+4*(14*a+3*b+5*K+3*K'+I+J+25)+26*s+18;simp only[wZ];omega) (by show _<=a+4*(14*a+3*b+5*K+3*K'+I+J+25)+26*s+18;simp only[wZ];omega)
end
section
variable{s r b X K K' I J E:Nat}{l:Li}{a:As}(D:DyR l a)(hn:(llq a.rs).length<=1)(cB:Cs s l)(tw:Tw (llq a.rs) r)
  (Z:Szs (llq a.rs).length r (3*E+2*s+2*K+10) b X K K' I J) (hb:8*s+5<=b)
include D hn cB tw Z hb
theorem Uk{g:Gr}{i k z0 z1 z2:Int}{j0 j1 j2:Jt}(P:RrrP E l a g i k z0 z1 z2 j0 j1 j2) :
  ∀sv∈jX l a i k j0 j1 j2,Xz (llq a.rs) r X sv.ts/\∀p∈sv.ps,Pq.ok sv.ts.length (oZ s (3*E+2*s+2*K+10) b K K' I J) p:=by
 have _:=hn;have gB:=uI D.hl D.li cB P.h0 P.p0.or;have pz:=uI D.hl D.li cB P.h1 P.p1.or;have fK:=uI D.hl D.li cB P.h2 P.t1;have pC:=uI D.hl D.li cB P.h2 P.t2;obtain⟨y1,y2⟩:=yp D.hl D.li cB D.al D.hc tw Z.hK P.h0 P.p0;obtain⟨y3,y4⟩:=yp D.hl D.li cB D.al D.hc tw Z.hK P.h1 P.p1;have z1:Bz b (qE (bI (am l j2 i) (am l j0 i)):Et (llq a.rs)):=Bz.q tw.five ((GT fK gB).mono hb);have z2:Bz b (qE (bI (am l j2 k) (am l j1 k)):Et (llq a.rs)):=Bz.q tw.five ((GT pC pz).mono hb);unfold jX
 by_cases h1:fY [cf (am l j2 i) (am l j0 i),cf (am l j2 k) (am l j1 k)]=true
 ·rw[aq7 h1];intro sv h;cases h
 ·rw[aq6 h1];obtain⟨w1,w2⟩:=Ag (aou.2 h1)
  by_cases h2:gq (aC l a j0 i) (aC l a j1 k) (qE (bI (am l j2 i) (am l j0 i))) (qE (bI (am l j2 k) (am l j1 k)))≠0
  ·rw[aq7 h2];intro sv h;cases h
  ·rw[aq6 h2];obtain⟨hx,hm⟩:=WK Z tw y1 y2 y3 y4 z1 z2 (apn.1 h2);exact MZ Z tw hx hm (qj ⟨gB,fK,w1,_,rfl,y1,y2⟩ ⟨pz,pC,w2,_,rfl,y3,y4⟩)
theorem aic{g:Gr}{i z0 z1:Int}{j0 j:Jt}(P:SlP E l a g 2 i z0 z1 j0 j)(ha:j.a=i)(eD:Pd E a j.b) :
  ∀sv∈j5 l a i j0 j,Xz (llq a.rs) r X sv.ts/\∀p∈sv.ps,Pq.ok sv.ts.length (oZ s (3*E+2*s+2*K+10) b K K' I J) p:=by
 have _:=hn;obtain⟨i1,i2,i3,i4,i5⟩:=ee D.li P.h1;have fK:Sm s (aX l i j.point):=by rw[<- ha];exact zx D.hl D.li cB i1 i3
 have gB:=uI D.hl D.li cB P.h0 P.p0.or;obtain⟨y1,y2⟩:=yp D.hl D.li cB D.al D.hc tw Z.hK P.h0 P.p0;obtain⟨y3,y4⟩:=yK D.hl D.li cB D.al D.hc tw Z.hK i2 i4 eD;obtain⟨y5,y6⟩:=yK D.hl D.li cB D.al D.hc tw Z.hK i2 (i5 P.hk) eD;have z1:Bz b (qE (bI (aX l i j.point) (am l j0 i)):Et (llq a.rs)):=Bz.q tw.five ((GT fK gB).mono hb);unfold j5
 by_cases h1:fY [cf (aX l i j.point) (am l j0 i)]=true
 ·rw[aq7 h1];intro sv h;cases h
 ·rw[aq6 h1];have w1:=yx (aou.2 h1)
  by_cases h2:gd (bi l a j.b j.on) (bi l a j.b j.to)≠0
  ·rw[aq7 h2];intro sv h;cases h
  ·rw[aq6 h2];obtain⟨hx,hm⟩:=Vj Z tw y3 y4 y5 y6 y1 y2 z1 (apn.1 h2);exact MZ Z tw hx hm (lE ⟨gB,fK,w1,_,rfl,y1,y2⟩)
theorem ah1{g:Gr}{i z0 z1:Int}{j0 j:Jt}(P:SlP E l a g 3 i z0 z1 j0 j)(hj:j.b=i)(eD:Pd E a j.a) :
  ∀sv∈kr l a i j0 j,Xz (llq a.rs) r X sv.ts/\∀p∈sv.ps,Pq.ok sv.ts.length (oZ s (3*E+2*s+2*K+10) b K K' I J) p:=by
 obtain⟨i1,i2,i3,i4,i5⟩:=ee D.li P.h1;have iI:=uI D.hl D.li cB P.h0 P.p0.or;have gP:Sm s (aX l i j.on):=by rw[<- hj];exact zx D.hl D.li cB i2 i4
 have mx:Sm s (aX l i j.to):=by rw[<- hj];exact zx D.hl D.li cB i2 (i5 P.hk)
 have hv:Sm (2*s+1) (cK l i j):=(mx.sub gP).mono oz;have qn:Cb b [jr l i j]:=(Cb.one (hv.dot hv)).mono oz;have qh:Cb b [cH l i j0 j]:=(Cb.one (hv.cross (gP.sub iI))).mono oz;obtain⟨o1,o2⟩:=yp D.hl D.li cB D.al D.hc tw Z.hK P.h0 P.p0;obtain⟨p1,p2⟩:=yK D.hl D.li cB D.al D.hc tw Z.hK i1 i3 eD;have w1:Bz (2*(3*E+2*s+2*K+10)+1) (cm l a i j0 j).1:=Bz.mono (p1.sub o1) oz;have w2:Bz (2*(3*E+2*s+2*K+10)+1) (cm l a i j0 j).2:=Bz.mono (p2.sub o2) oz;have hd:Bz (8*(3*E+2*s+2*K+10)+2*K+8) (cO l a i j0 j):=Bz.mono (H6 Z tw (p:=aC l a j0 i) (q:=bi l a j.a j.point) o1 o2 p1 p2) oz;have hX:Bz X (bE l a i j0 j):=Bz.mono ((hd.qm qn).sub ((Bz.q tw.five qh).qm qh)) (by have:=Z.hX;omega);have h0:=De D.li P.h1 P.hk hj;unfold kr
 by_cases h1:ao (cO l a i j0 j)=0/\ao (qE (cH l i j0 j):Et (llq a.rs))=0
 ·rw[aq7 h1];intro sv h;cases h
 ·rw[aq6 h1]
  by_cases h2:ao (bE l a i j0 j)<0
  ·rw[aq7 h2];intro sv h;cases h
  ·rw[aq6 h2];have f9:ao (cO l a i j0 j)≠0:=xI tw h2 h1
   have key:∀us,Xz (llq a.rs) r X us->Bz J (iE (dE us (sX (cO l a i j0 j))))->∀q,Bz 1 (dE us q)->Pq.ok us.length (oZ s (3*E+2*s+2*K+10) b K K' I J) (pO us (eT l a i j0 j) q):=by
    intro us hx hi q hq;have h5:=hx.tw.five
    have hh:Bz b (dE us (sh 0 (cH l i j0 j:Rat))):=by
     have e:dE us (sh 0 (cH l i j0 j:Rat))=qE (cH l i j0 j):=kl _ _;rw[e];exact Bz.q h5 qh
    exact YW Z tw hx (R:=eT l a i j0 j) hv iI h0 hq (w1.upX hx.up h5) (w2.upX hx.up h5) hh hi (o1.upX hx.up h5) (o2.upX hx.up h5)
   by_cases h3:0<ao (bE l a i j0 j)
   ·rw [aq7 h3];have hx:=Cr tw hn Z.hL hX oz;have hi:=Iq Z tw hX (by omega:0 <= ao (bE l a i j0 j)) hd f9;have rt:=HK Z tw (x:=bE l a i j0 j);have k:=key _ hx hi;intro sv h;unfold jK at h;obtain ⟨n,s9,rfl⟩:=anx.1 h;refine ⟨hx,fun p hp=>?_⟩;unfold j4 at hp;rw [am8.1 hp]
    match n,an2.1 s9 with
    |0,_=>exact k _ rt
    |1,_ =>
     refine k _ ?_;show Bz 1 (dE _ (sX (-bJ (bE l a i j0 j))));have e:dE (aW (llq a.rs) (sX (bE l a i j0 j))) (sX (-bJ (bE l a i j0 j)))=-bJ (bE l a i j0 j):=bu _ _;rw[e];exact rt.neg
   ·rw[aq6 h3];have hx:=Fg (X:=X) tw Z.hL;have e:dE (llq a.rs) (sX (cO l a i j0 j))=cO l a i j0 j:=bu _ _
    have hi:Bz J (iE (dE (llq a.rs) (sX (cO l a i j0 j)))):=by
     rw[e];exact(Ez Z tw hd f9).mono Z.ij
    have k:=key _ hx hi;intro sv h;unfold jK at h;obtain⟨n,s9,rfl⟩:=anx.1 h;refine⟨hx,fun p hp=>?_⟩;unfold j4 at hp;rw[am8.1 hp]
    match n,an2.1 s9 with
    |0,_=>exact k _ (vg ⟨tw.five,.inl rfl,⟨1,0,⟨by decide,fun q h=>by cases h⟩,by decide,by decide⟩⟩)
end
theorem QE{k:List Bool}{i:Nat}{b:Int}(h:kn (k.set i true) b=true):kn k b=true\/i=b.toNat:=by
 unfold kn at h ⊢
 by_cases e:i=b.toNat
 ·exact .inr e
 ·rw[apq,List.getElem?_set_ne e,<- apq]at h;exact .inl h
theorem GL:∀(bs:List Int){k:List Bool}{b:Int},kn (bQ k bs) b=true->kn k b=true\/∃x∈bs,x.toNat=b.toNat
 |[],k,b,h=>.inl h
 |x::bs,k,b,h=>by
  have h:kn (bQ (k.set x.toNat true) bs) b=true:=h;rcases GL bs h with h |⟨y,hy,e⟩
  ·rcases QE h with h |h
   ·exact .inl h
   ·exact .inr ⟨x,aqr,h⟩
  ·exact .inr ⟨y,aqq _ hy,e⟩
def zP(l:Li)(kw:List Bool)(out:List Gr):Prop:=∀d∈l.dv,kn kw d.body=true->∃g∈out,g.kind=0/\g.bo=[d.body]
theorem UH{l:Li}{d:Dr}(hd:d∈l.dv){b:Int}(h:d.body=b):rx l b=true:=by
 unfold rx;rw[am7];exact⟨d,hd,by simp[h]⟩
theorem Nc{l:Li}{kw:List Bool}{g:Gr}(h:pairG l kw=some g):∀x∈g.bo,freeB l kw x=true:=by
 unfold pairG at h;rw[apt]at h;obtain⟨i,hi,h⟩:=h;obtain⟨h1,h2⟩:=ip hi;split at h
 ·rename_i k hk;subst h;unfold prAt at hk;rw [apt] at hk;obtain ⟨k',hk',rfl⟩:=hk;obtain ⟨h3,h4⟩:=ip hk';rw [show i + 1 + k' = k' + (i + 1) by omega] at h4;unfold prHit at h4;simp only [aow,apw,aq8] at h4;obtain ⟨⟨f1,f2⟩,_⟩:=h4;intro x hx;simp only [prG,aqf,aqg,or_false] at hx;rcases hx with rfl | rfl
  ·exact f1
  ·exact f2
 ·rename_i hk;rw[hk]at h2;cases h2
theorem Md{l:Li}{kw:List Bool}{g:Gr}(h:singleG l kw=some g):∀x∈g.bo,freeB l kw x=true:=by
 unfold singleG at h;rw[apt]at h;obtain⟨i,hi,rfl⟩:=h;obtain⟨h1,h2⟩:=ip hi;unfold sgHit at h2;simp only[aow,apw,aq8]at h2;intro x hx;simp only[sgG,aqf,aqg,or_false]at hx;subst hx;exact h2.1
theorem aax{l:Li}(hl:aG l=0){kw:List Bool}{out:List Gr}{g:Gr}(h:zP l kw out)(hg:nextG l kw=some g):zP l (bQ kw g.bo) (out++[g]):=by
 intro d hd hk;have ho:=C0 hl hg;rcases GL g.bo hk with h1 |⟨x,hx,e⟩
 ·obtain⟨g',h2,h3⟩:=h d hd h1;exact⟨g',List.mem_append_left _ h2,h3⟩
 ·obtain ⟨i, hi⟩:=aqx hd;have hb:=d5 (pW hl hi);have ik:=(ho.b x hx).1;have ex:d.body = x:=by omega
  unfold nextG at hg;cases h1:driverG l kw with
  |some g' =>
   rw[h1]at hg;cases hg
   refine⟨g,List.mem_append_right _ (am8.2 rfl),?_⟩;unfold driverG at h1;rw[apt]at h1;obtain⟨i,_,rfl⟩:=h1;refine⟨rfl,?_⟩;rw[am8.1 hx]at ex;rw[ex]
  |none =>
   rw[h1]at hg
   have hf:freeB l kw x=true:=by
    cases h2:pairG l kw with
    |some g'=>rw[h2]at hg;cases hg;exact Nc h2 x hx
    |none=>rw[h2]at hg;exact Md hg x hx
   unfold freeB at hf;rw[UH hd ex]at hf;simp at hf
theorem Qo{l:Li}(hl:aG l=0):∀(n:Nat)(kw:List Bool)(out:List Gr),zP l kw out->zP l (findFrom l n kw out).1 (findFrom l n kw out).2
 |0,kw,out,h=>h
 |n+1,kw,out,h=>by
  unfold findFrom;cases hg:nextG l kw with
  |none=>exact h
  |some g=>exact Qo hl n _ _ (aax hl h hg)
theorem Dw{l:Li}(hl:aG l=0){i:Nat}{d:Dr}(hd:l.dv[i]?=some d):d.body≠0/\∀j d',j<i->l.dv[j]?=some d'->d'.body≠d.body:=by
 have h1:=(dK hl).2.2.1;unfold iP at h1;split at h1
 ·cases h1
 ·have h2:=r6 h1 i (anz.1 hd).1;unfold fw at h2;rw[ax hd]at h2;split at h2
  ·cases h2
  ·split at h2
   ·cases h2
   ·split at h2
    ·cases h2
    ·split at h2
     ·cases h2
     ·rename_i h4;split at h2
      ·cases h2
      ·rename_i h5;refine⟨h4,fun j d' hj hd' e=>h5 ?_⟩;rw[am7];exact⟨d',apo (by rw[aqh,aq7 hj];exact hd'),by simpa using e⟩
theorem QQ{α:Type}{p:α->Bool}:∀{l:List α}{x y:α},x∈l->y∈l->x≠y->p x=true->p y=true->2<=l.countP p
 |z::l,x,y,hx,hy,hn,px,py=>by
  have pos:∀w,w∈l->p w=true->0<l.countP p:=fun w hw pw=>List.countP_pos_iff.2 ⟨w,hw,pw⟩
  rcases aqf.1 hx with e |hx
  ·rcases aqf.1 hy with e2 |hy
   ·exact ard (e.trans e2.symm) hn
   ·have h9:=pos y hy py;rw[an0 (e▸px)];omega
  ·rcases aqf.1 hy with e |hy
   ·have h9:=pos x hx px;rw[an0 (e▸py)];omega
   ·have:=QQ hx hy hn px py;rw[anv];omega
theorem CZ{l:Li}(hl:aG l=0):l.dv.length<=2:=by
 have h1:=(dK hl).2.2.1;unfold iP at h1;split at h1
 ·cases h1
 ·omega
theorem MY{l:Li}(hl:aG l=0)(hs:splitE l=0):∀d∈l.dv,∃g∈splitG l,g.kind=0/\g.bo=[d.body]:=by
 have h0:zP l (dw l.bo.length 0) []:=by
  intro d hd hk;obtain⟨i,hi⟩:=aqx hd;have hb:=d5 (pW hl hi);rw[uk oz oz oz]at hk;exact ard (aq9 hk) (Dw hl hi).1
 have h1:=Qo hl l.bo.length _ _ h0;rw[Qu]at h1;intro d hd;obtain⟨i,hi⟩:=aqx hd;have hb:=d5 (pW hl hi)
 have hz:(gN (cD l)).length=0:=by
  unfold splitE at hs;split at hs
  ·omega
  ·cases hs
 rw[Bx]at hz
 have bV:(cD l).length=l.bo.length:=by
  have:∀(gs:List Gr)(k:List Bool),(gs.foldl (fun k g=>bQ k g.bo) k).length=k.length:=by
   intro gs
   induction gs with
   |nil=>intro k;rfl
   |cons g gs ih=>intro k;rw[aq5,ih,mI]
  unfold cD;rw[this,kN]
 have hk:kn (cD l) d.body=true:=by
  unfold kn;rw[apq,aps (by omega:d.body.toNat<(cD l).length)];show(cD l)[d.body.toNat]=true;cases hv:(cD l)[d.body.toNat]'oz with
  |true=>rfl
  |false =>
   exfalso;have hm:false∈cD l:=hv▸anm _;rw[<- an8]at hm;rw[hm]at hz;cases hz
 obtain⟨g,hg,h2⟩:=h1 d hd hk;refine⟨g,?_,h2⟩;unfold splitG;rw[aq7 hs];exact hg
theorem Yc{l:Li}(hl:aG l=0)(hs:splitE l=0):l.dv.length<=(splitG l).countP (fun g=>decide (g.kind=0)):=by
 have h2:=CZ hl;have hg:=MY hl hs
 match hd:l.dv with
 |[]=>simp
 |[d] =>
  obtain⟨g,h3,h4,_⟩:=hg d (by rw[hd];simp);exact List.countP_pos_iff.2 ⟨g,h3,by simpa using h4⟩
 |[d,d'] =>
  obtain⟨g,h3,h4,h5⟩:=hg d (by rw[hd];simp);obtain⟨g',h3',h4',h5'⟩:=hg d' (by rw[hd];simp);refine QQ h3 h3' ?_ (by simpa using h4) (by simpa using h4');intro e;rw[e,h5']at h5;exact(Dw hl (i:=1) (d:=d') (by rw[hd];rfl)).2 0 d oz (by rw[hd];rfl) (by simpa using h5.symm)
 |_::_::_::_=>rw[hd]at h2;simp only[ap4]at h2;omega
structure Aq where
  ts:LL
  bs:List Pq
  ms:List Int
instance:Inhabited Pq:=⟨⟨[],[],[],[]⟩⟩
instance:Inhabited Aq:=⟨⟨[],[],[]⟩⟩
def Pq.pl(p:Pq):Pl:=⟨p.c.map rt,p.s.map rt,p.x.map rt,p.y.map rt⟩
def Aq.as(a:Aq):As:=⟨a.ts.map (List.map rt),a.bs.map Pq.pl,a.ms⟩
theorem Pq.pl_av(p:Pq):p.pl.av=p.av:=by unfold Pl.av Pq.av Pq.pl;rw[gh,gh,gh,gh]
abbrev Aq.cs(a:Aq):List AV:=[.lst 1 (a.ts.map nA),.lst 4 (a.bs.map Pq.av),.lst 1 (a.ms.map i64)]
abbrev Aq.av(a:Aq):AV:=.agg a.cs
theorem Aq.as_av(a:Aq):a.as.av=a.av:=by
 unfold As.av Aq.as Aq.av Aq.cs;rw[map_map,map_map];congr 3
 ·exact aqz (fun x _=>gh x)
 ·congr 1;exact aqz (fun x _=>Pq.pl_av x)
theorem Aq.llq(a:Aq):Lw.llq a.as.rs=a.ts:=tt _
def ba(bs:List Pq)(is:List Int)(ps:List Pq):List Pq:=(is.zip ps).foldl (fun k x=>k.set x.1.toNat x.2) bs
def Aq.nxt(a:Aq)(g:Gr)(s:Sv):Aq:=⟨s.ts,ba a.bs g.bo s.ps,a.ms++[s.mode]⟩
def bg:Pq:=⟨[],[],[],[]⟩
def lh:Pq:=⟨[1],[],[],[]⟩
def d8(l:Li):Aq:=⟨[],(ana l.bo.length bg).set 0 lh,[]⟩
def dY:Tn:=⟨⟨false,[],[]⟩,false⟩
def cw(g:Gr)(xs:List Tn):Tn:=if g.kind=0 then xs.getD g.driver.toNat dY else dY
theorem NW:∀(zs:List (Int×Pq))(bs:List Pq),(zs.foldl (fun k x=>k.set x.1.toNat x.2) bs).length=bs.length
 |[],bs=>rfl
 |z::zs,bs=>by rw[aq5,NW zs,aq4]
theorem N9:∀(zs:List (Int×Pq))(bs:List Pq)(p:Pq),p∈zs.foldl (fun k x=>k.set x.1.toNat x.2) bs->p∈bs\/∃z∈zs,z.2=p
 |[],bs,p,h=>.inl h
 |z::zs,bs,p,h=>by
  rw[aq5]at h;rcases N9 zs _ p h with h |⟨z',hz,e⟩
  ·rcases ank h with h |h
   ·exact .inl h
   ·exact .inr ⟨z,aqr,h.symm⟩
  ·exact .inr ⟨z',aqq _ hz,e⟩
theorem Cj(bs:List Pq)(is:List Int)(ps:List Pq):(ba bs is ps).length=bs.length:=NW _ _
theorem M3{bs:List Pq}{is:List Int}{ps:List Pq}{p:Pq}(h:p∈ba bs is ps):p∈bs\/p∈ps:=by
 rcases N9 _ _ _ h with h |⟨z,hz,e⟩
 ·exact .inl h
 ·exact .inr (e▸(List.of_mem_zip hz).2)
theorem ajo{bs:List Pq}{is:List Int}{ps:List Pq}{i:Nat}{b:Int}{p:Pq}(hb:is[i]?=some b)(hp:ps[i]?=some p) :
  ba bs (is.take (i+1)) (ps.take (i+1))=(ba bs (is.take i) (ps.take i)).set b.toNat p:=by
 have h1:is.take (i+1)=is.take i++[b]:=by rw[List.take_add_one,hb];rfl
 have h2:ps.take (i+1)=ps.take i++[p]:=by rw[List.take_add_one,hp];rfl
 have s7:=(anz.1 hb).1;have uV:=(anz.1 hp).1;unfold ba;rw[h1,h2,List.zip_append (by rw[ap7,ap7];omega),List.foldl_append];rfl
def pV(s j r E:Nat):Nat:=3*E+2*s+2*eB r j+10
def oU(s j r E:Nat):Nat:=24*pV s j r E+8*eB r j+5*(8*s+5)+23
def Ke(s j r E:Nat):Nat:=iB r j (8*pV s j r E+2*eB r j+8)
def CE(s j r E:Nat):Nat:=iB (r+oU s j r E) j (8*pV s j r E+2*eB r j+8)
def z7(s j r E:Nat):Nat:=oZ s (pV s j r E) (8*s+5) (eB r j) (eB (r+oU s j r E) (j+1)) (Ke s j r E) (CE s j r E)
def ss(s g j r E:Nat):Nat:=pV s j r E+2*g+2*s+4
def gH(s g:Nat):Nat->Nat->Nat->Nat->Nat->Bool
  |0,_,j,r,E=>decide (E<=3200000000/\r<=60000000/\j<=2)
  |n+1,y,j,r,E=>decide (E<=3200000000/\r<=60000000/\j<=2)&&(gH s g n y j r (ss s g j r E) &&
      (decide (y=0)||(decide (j<=1/\E<=3900000/\r<=64990/\r+oU s j r E<=5000000000/\CE s j r E<=50000000000)&&gH s g n (y-1) (j+1) (r+oU s j r E) (z7 s j r E))))
theorem JT:gH 32 134 3 1 0 0 2=true:=by decide +kernel
theorem aez:gH 9 42 4 2 0 0 2=true:=by decide +kernel
theorem HY{s g n y j r E:Nat}(h:gH s g n y j r E=true):E<=3200000000/\r<=60000000/\j<=2:=by
 cases n with
 |zero=>exact aq9 h
 |succ n =>
  unfold gH at h;simp only[apw,aq8]at h;exact⟨h.1.1,h.1.2.1,h.1.2.2⟩
theorem QC{s g n y j r E:Nat}(h:gH s g n y j r E=true):E<=3200000000/\r<=400000000/\j<=2:=by
 have:=HY h;omega
theorem ain{s g n y j r E:Nat}(h:gH s g n y j r E=true):E<=50000000000/\r<=400000000/\j<=2:=by
 have:=QC h;omega
theorem x8{s g n y j r E:Nat}(h:gH s g (n+1) y j r E=true):(E<=20000000000/\r<=400000000/\j<=2)/\gH s g n y j r (ss s g j r E)=true:=by
 unfold gH at h;simp only[apw,aq8]at h;exact⟨⟨by omega,by omega,by omega⟩,h.2.1⟩
theorem ym{s g n y j r E:Nat}(h:gH s g (n+1) (y+1) j r E=true):(j<=1/\E<=3900000/\r<=64990/\r+oU s j r E<=5000000000/\CE s j r E<=50000000000)/\gH s g n y (j+1) (r+oU s j r E) (z7 s j r E)=true:=by
 unfold gH at h;simp only[apw,aqy,aq8,am1]at h;rcases h.2.2 with h1 |h1
 ·omega
 ·exact h1
structure QInv(l:Li)(j r E:Nat)(a:Aq):Prop where
  tw:Tw a.ts r
  lv:a.ts.length<=j
  bs:∀p∈a.bs,Pq.ok a.ts.length E p
  ln:a.bs.length=l.bo.length
theorem Pq.ok.up{n n' e e':Nat}{p:Pq}(h:Pq.ok n e p)(hn:n<=n')(h5:n'<=5)(he:e<=e'):Pq.ok n' e' p :=
 ⟨⟨h5,h.c.nl.mono hn,h.c.cb.mono he⟩,⟨h5,h.s.nl.mono hn,h.s.cb.mono he⟩,⟨h5,h.x.nl.mono hn,h.x.cb.mono he⟩,⟨h5,h.y.nl.mono hn,h.y.cb.mono he⟩⟩
theorem Pq.ok.lv{n m e:Nat}{p:Pq}(h:Pq.ok n e p)(hn:n=m):Pq.ok m e p:=hn▸h
theorem BI{r r':Nat}(h:r<=r'):∀j,eB r j<=eB r' j
 |0=>apu _
 |j+1=>by have:=BI h j;simp only[eB];omega
theorem LC{r r':Nat}(h:r<=r'):∀j e,iB r j e<=iB r' j e
 |0,e=>apu _
 |j+1,e=>by
  have h1:=BI h j;have h2:=BI h (j+1);have h3:=LC h j (4*e+3*eB r j+r+1);have h4:=AQ r' j (e:=4*e+3*eB r j+r+1) (f:=4*e+3*eB r' j+r'+1) oz;simp only[iB];omega
theorem C7:Pq.ok 0 2 bg:=by
 have h:Nm 0 2 []:=⟨by omega,.inl rfl,⟨1,0,⟨by decide,fun q h=>by cases h⟩,by decide,by decide⟩⟩
 exact⟨h,h,h,h⟩
theorem YR:Pq.ok 0 2 lh:=by
 have h:Nm 0 2 [1]:=⟨by omega,.inr ⟨0,apu _,rfl⟩,Cb.mono (Cb.int (z:=1) (e:=1) (by decide)) oz⟩
 exact⟨h,C7.c,C7.c,C7.c⟩
theorem OW:Tw [] 0:=⟨by decide,(fun j h=>by cases h),(fun j h=>by cases h),⟨1,1,by decide,(fun d h=>by cases h),by decide,by decide⟩,by omega⟩
theorem PM(l:Li):QInv l 0 0 2 (d8 l):=by
 refine⟨OW,apu _,fun p hp=>?_,by simp[d8]⟩;rcases ank hp with h |h
 ·rw[(an5.1 h).2];exact C7
 ·rw[h];exact YR
theorem Pq.ok.nr{n e:Nat}{p:Pq}(h:Pq.ok n e p)(he:e<=lm n):∀x∈p.pl.l,NR x e:=by
 intro x hx;simp only[Pl.l,Pq.pl,aqf,aqg,or_false]at hx;rcases hx with rfl |rfl |rfl |rfl
 ·exact h.c.rt he
 ·exact h.s.rt he
 ·exact h.x.rt he
 ·exact h.y.rt he
theorem Pq.ok.num{n e:Nat}{p:Pq}(h:Pq.ok n e p):∀x∈p.pl.l,de n x=0:=by
 intro x hx;simp only[Pl.l,Pq.pl,aqf,aqg,or_false]at hx;rcases hx with rfl |rfl |rfl |rfl
 ·exact ue h.c.nl
 ·exact ue h.s.nl
 ·exact ue h.x.nl
 ·exact ue h.y.nl
section
variable{l:Li}{j r E:Nat}{a:Aq}(Q:QInv l j r E a)
include Q
theorem QInv.chk:bS a.as.rs=0:=Q.tw.chk
theorem QInv.mem{p:Pl}(h:p∈a.as.bs):∃q∈a.bs,q.pl=p:=by have _:=Q;exact anx.1 h
theorem QInv.nr(hE:E<=50000000000){p:Pl}(h:p∈a.as.bs):∀x∈p.l,NR x E:=by
 obtain⟨q,hq,rfl⟩:=Q.mem h;exact(Q.bs q hq).nr (aqe hE (mD _))
theorem QInv.ab(hl:aG l=0)(hE:E<=50000000000)(hr:r<=400000000):AB a.as:=by
 refine⟨Q.tw.tr.mono hr oz,fun p hp x hx=>(Q.nr hE hp x hx).mono hE,?_,?_⟩
 ·show(a.ts.map _).length<=8;rw[apr];have:=Q.tw.three;omega
 ·show(a.bs.map _).length<=30;rw[apr,Q.ln];have:=(dK hl).2.2.2.1;omega
theorem QInv.sma(hE:E<=50000000000){F:Nat}(hF:E<=F)(k:Int)(own:Bool):CK F l k a.as own :=
 fun b _ _ p hp x hx=>(Q.nr hE (apo hp) x hx).mono hF
theorem QInv.nd(hl:aG l=0){g:Gr}(hg:GrOk l g){own:Bool}:∀b∈dR l g own,jW a.as b=0:=by
 intro b hb;unfold jW;split
 ·rfl
 ·have h1:=GF hl hg b hb;obtain ⟨p,hp⟩:=ay (l:=a.bs) (i:=b.toNat) (by rw [Q.ln]; omega);have e:a.as.bs[b.toNat]? = some p.pl:=by show (a.bs.map Pq.pl)[b.toNat]? = _; rw [apv,hp]; rfl
  rw[ax e];unfold bY;rw[aq6 (by rw[Q.chk];simp)];have e2:a.as.rs.length=a.ts.length:=apr _;rw[e2];exact rf (fun x hx=>(Q.bs p (apo hp)).num x hx)
theorem QInv.dy0(hl:aG l=0)(hs:splitE l=0){k:Nat}{g:Gr}(hg:(splitG l)[k]?=some g)(own:Bool):iY l k a.as own=0:=by
 have hk:=(anz.1 hg).1;obtain⟨_,ho⟩:=vj hl (apo hg);have mw:lO l (k:Nat)=g:=ax hg;rw[vP hl,KH hs oz (by show(a.bs.map _).length=_;rw[apr,Q.ln]) Q.chk,mw];exact rf (fun b hb=>Q.nd hl ho b (H3.1 hb))
end
structure WkC(l:Li)(xs:List Tn)(s g:Nat):Prop where
  hl:l.ok
  li:aG l=0
  sp:splitE l=0
  cs:Cs s l
  ln:xs.length=l.dv.length
  ok:∀x∈xs,x.t.ok/\x.err=0/\Qb 1000 x.t.q/\Cb g [dT x.half x.t.q]/\Cb g [dV x.half x.t.q]
theorem Fp{l:Li}{g:Gr}(h:DyK l g)(hk:g.kind=0):0<=g.driver/\g.driver<l.dv.length:=by
 cases h with
 | @drv b z d _ _ t d0 hd hb=>have:=(anz.1 hd).1;exact⟨d0,by show d<_;omega⟩
 |rrr=>exact ard hk (by simp)
 |pr=>exact ard hk (by simp)
 |rp=>exact ard hk (by simp)
theorem E2:dY.t.ok:=⟨(fun x h=>by cases h),(fun x h=>by cases h),apx _,apx _⟩
theorem Qm:Qb 1000 dY.t.q:=by
 have e:dY.t.q=0:=by decide +kernel
 rw[e];exact Qb.zero.mono oz
section
variable{l:Li}{xs:List Tn}{s g:Nat}(W:WkC l xs s g){k:Nat}{gr:Gr}(hg:(splitG l)[k]?=some gr)
include W hg
theorem WkC.grp:DyK l gr/\GrOk l gr:=vj W.li (apo hg)
theorem WkC.tn:(cw gr xs).t.ok/\Qb 1000 (cw gr xs).t.q/\(gr.kind=0->∃x∈xs,cw gr xs=x):=by
 unfold cw
 by_cases hk:gr.kind=0
 ·rw[aq7 hk];have h:=Fp (W.grp hg).1 hk;obtain⟨x,hx⟩:=ay (l:=xs) (i:=gr.driver.toNat) (by rw[W.ln];omega);rw[ax hx];have hm:=apo hx;exact⟨(W.ok x hm).1,(W.ok x hm).2.2.1,fun _=>⟨x,hm,rfl⟩⟩
 ·rw[aq6 hk];exact⟨E2,Qm,fun h=>ard h hk⟩
variable{j r E:Nat}{a:Aq}(Q:QInv l j r E a)
include Q
theorem QInv.dyOk{F:Nat}(hE:E<=50000000000)(hF:E<=F):DyOk F l k a.as false k gr:=by
 obtain⟨i,g',h⟩:=EL (Q.sma hE hF k false) (Q.dy0 W.li W.sp hg false);have e:i=k:=by have:=h.hk;omega
 subst e;have:=h.hg;rw[hg]at this;cases this;exact h
theorem QInv.dyS(hr:r<=64990)(hj:j<=1):DyS a.as:=by have _:=W;have _:=hg;exact⟨Q.tw.tr.mono hr oz,fun _=>by rw[a.llq];exact aqe Q.lv hj⟩
theorem QInv.dyW(hE:E<=50000000000)(hr:r<=400000000):DyW l a.as:=by have _:=hg;exact⟨W.hl,W.li,Q.ab W.li hE hr,Q.chk⟩
theorem QInv.twl:Tw (Lw.llq a.as.rs) r:=by have _:=W;have _:=hg;rw[a.llq];exact Q.tw
theorem QInv.drv{n y:Nat}(ok:gH s g (n+1) y j r E=true)(hk:gr.kind=0):∀sv∈fq l a.as gr (cw gr xs),QInv l j r (ss s g j r E) (a.nxt gr sv):=by
 obtain⟨⟨hE,hr,hj⟩,_⟩:=x8 ok;have D:=QInv.dyW W hg Q oz hr;have O:=QInv.dyOk W hg Q (F:=E) oz (apu _);obtain⟨i,z0,d,j0,e,jB,p0⟩:=Ik O hk;obtain⟨_,_,hx⟩:=W.tn hg;obtain⟨x,hx,ex⟩:=hx hk;obtain⟨_,he,_,hc,hs⟩:=W.ok x hx;have bV:(Lw.llq a.as.rs).length=a.ts.length:=by rw[a.llq]
 have tw:=QInv.twl W hg Q;have gB:=uI W.hl W.li W.cs jB p0.or;have hK:eB r (Lw.llq a.as.rs).length<=eB r j:=kR r (by rw[bV];exact Q.lv);obtain⟨o1,o2⟩:=yp W.hl W.li W.cs D.al D.hc tw hK jB p0;rw[ex];unfold fq;rw[aq7 hk,e];show ∀sv∈lC l a.as i (l.jo.getD z0.toNat default) x,_;rw[ax jB];unfold lC;rw[aq6 oz];have hp:=Xr (ts:=Lw.llq a.as.rs) (p:=am l j0 i) (o:=aC l a.as j0 i) hc hs gB tw.five o1 o2
 have ku:Pq.ok a.ts.length (ss s g j r E) (ot l a.as i j0 x):=by
  have:=GA (a:=0) (b:=0) hp (e:=ss s g j r E) (by unfold ss pV;omega) (by unfold ss pV;omega);exact Pq.ok.lv this bV
 refine lE ⟨?_,?_,?_,?_⟩
 ·exact tw
 ·show(Lw.llq a.as.rs).length<=j;rw[bV];exact Q.lv
 ·intro p Jh;show Pq.ok (Lw.llq a.as.rs).length _ p;rw[bV];rcases M3 Jh with h |h
  ·exact(Q.bs p h).up (apu _) Q.tw.five (by unfold ss pV;omega)
  ·rw[am8.1 h];exact ku
 ·exact(Cj _ _ _).trans Q.ln
theorem QInv.dy{n y:Nat}(ok:gH s g (n+1) (y+1) j r E=true)(hk:gr.kind≠0):∀sv∈fq l a.as gr (cw gr xs),QInv l (j+1) (r+oU s j r E) (z7 s j r E) (a.nxt gr sv):=by
 obtain⟨⟨hj,hE,hr,hX,hJ⟩,_⟩:=ym ok;have D:DyR l a.as:=⟨QInv.dyW W hg Q oz oz,QInv.dyS W hg Q hr hj⟩
 have O:=QInv.dyOk W hg Q (F:=E) oz (apu _);have bV:(Lw.llq a.as.rs).length=a.ts.length:=by rw[a.llq]
 have Ji:(Lw.llq a.as.rs).length<=j:=by rw[bV];exact Q.lv
 have tw:=QInv.twl W hg Q
 have Z:Szs (Lw.llq a.as.rs).length r (3*E+2*s+2*eB r j+10) (8*s+5) (oU s j r E) (eB r j) (eB (r+oU s j r E) (j+1)) (Ke s j r E) (CE s j r E):=by
  refine⟨by omega,kR r Ji,?_,hX,kR _ oz,?_,?_,hJ,?_,?_⟩
  ·unfold oU pV;omega
  ·exact Gp r _ Ji
  ·exact Gp _ _ Ji
  ·exact aqe (kR r oz) (BI oz _)
  ·exact LC oz _ _
 have hn:(Lw.llq a.as.rs).length<=1:=by omega
 have key:∀sv∈fq l a.as gr (cw gr xs),Xz (Lw.llq a.as.rs) r (oU s j r E) sv.ts/\∀p∈sv.ps,Pq.ok sv.ts.length (z7 s j r E) p:=by
  unfold fq;rw[aq6 hk]
  by_cases f8:gr.kind=1
  ·obtain⟨i,k2,z0,z1,z2,j0,j1,j2,P⟩:=O.rrr f8;obtain⟨e0,e1,e2,b0,b1,_⟩:=P.at;rw[aq7 f8,e0,e1,e2,b0,b1];exact Uk D hn W.cs tw Z (apu _) P
  ·rw[aq6 f8]
   by_cases dj:gr.kind=2
   ·obtain⟨i,z0,z1,j0,j,P,ha,hb⟩:=O.pr dj;obtain⟨e0,e1,b0,_⟩:=P.at;rw[aq7 dj,e0,e1,b0];exact aic D hn W.cs tw Z (apu _) P ha hb
   ·obtain⟨i,z0,z1,j0,j,P,_,hj,hb⟩:=O.rp hk f8 dj;obtain⟨e0,e1,b0,qG⟩:=P.at;rw[aq6 dj,e0,e1,b0];exact ah1 D hn W.cs tw Z (apu _) P hj hb
 intro sv gQ;obtain⟨hx,hp⟩:=key sv gQ;have h5:=hx.tw.five;have DS:=hx.up;have iV:=hx.ln;rw[bV]at DS iV;refine⟨hx.tw,?_,?_,?_⟩
 ·show sv.ts.length<=j+1;have:=Q.lv;omega
 ·intro p Jh;rcases M3 Jh with h |h
  ·exact(Q.bs p h).up DS h5 (by unfold z7 oZ wZ pV;omega)
  ·exact hp p h
 ·exact(Cj _ _ _).trans Q.ln
end
def mO(l:Li)(a:As)(g:Gr)(x:Tn):Nat:=(me l a g x).2
def gw(F:Int->Bool)(sg:Bool)(f:Sv->List Aq×Nat):List Sv->List Aq×Nat
  |[]=>([],0)
  |s::r=>if F s.mode=false then gw F sg f r else if(f s).2≠0 then f s else if sg=true then f s else((f s).1++(gw F sg f r).1,(gw F sg f r).2)
def fP(F:Nat->Int->Bool)(sg:Bool)(l:Li)(xs:List Tn)(gs:List Gr):Nat->Aq->List Aq×Nat
  |0,a=>([a],0)
  |n+1,a=>if mO l a.as (gs.getD a.ms.length default) (cw (gs.getD a.ms.length default) xs)≠0 then([],mO l a.as (gs.getD a.ms.length default) (cw (gs.getD a.ms.length default) xs))
    else gw (F a.ms.length) sg (fun s=>fP F sg l xs gs n (a.nxt (gs.getD a.ms.length default) s)) (fq l a.as (gs.getD a.ms.length default) (cw (gs.getD a.ms.length default) xs))
theorem aa8{l:Li}{xs:List Tn}{s g:Nat}(W:WkC l xs s g){k:Nat}{gr:Gr}(hg:(splitG l)[k]?=some gr){j r E:Nat}{a:Aq}(Q:QInv l j r E a){n y:Nat}(ok:gH s g (n+1) y j r E=true)(hy:gr.kind≠0->0<y) :
  SolP (fq l a.as gr (cw gr xs)) gr.kind a.ts.length gr.bo.length:=by
 obtain⟨⟨hE,hr,hj⟩,_⟩:=x8 ok;have D:=QInv.dyW W hg Q oz hr;have h3:(Lw.llq a.as.rs).length<=2:=by rw[a.llq];have:=Q.lv;omega
 have bV:(Lw.llq a.as.rs).length=a.ts.length:=by rw[a.llq]
 rw[<- bV]
 by_cases hk:gr.kind=0
 ·exact KB hE D h3 (QInv.dyOk W hg Q (F:=E) oz (apu _)) (fun h=>ard hk h) (W.tn hg).2.1
 ·have hy:=hy hk;obtain ⟨y',rfl⟩:∃ y',y = y' + 1:=⟨y - 1,by omega⟩
  obtain⟨⟨hj,hE,hr,hX,hJ⟩,_⟩:=ym ok;exact KB oz D h3 (QInv.dyOk W hg Q (F:=3900000) oz hE) (fun _=>⟨rfl,QInv.dyS W hg Q hr hj⟩) (W.tn hg).2.1
open Lean.Grind (CommRing)
theorem vi{ts:LL}(hp:gY ts){X:Et ts}(h:0<ao X):gY (aW ts (sX X)):=by
 intro j hj;rw[fp]at hj;rw[A5 oz];rcases apz j ts.length with h9 |h9
 ·rw[BW h9];exact hp j h9
 ·have : j = ts.length := by omega
  subst this
  have e1:aw (aW ts (sX X)) ts.length=X:=by
   show af ts.length ((aW ts (sX X)).getD ts.length [])=_;rw[zf,rS];exact bu _ _
  rw[e1];exact Int.le_of_lt h
def dk(T:LL)(p:Pq)(m:Rat×Rat):P2 T:=(dE T p.c*qE m.1-dE T p.s*qE m.2+dE T p.x,dE T p.s*qE m.1+dE T p.c*qE m.2+dE T p.y)
def CH(T:LL)(p:Pq):Prop:=ao (dE T p.c*dE T p.c+dE T p.s*dE T p.s-1)=0
def bb(l:Li)(T:LL)(bs:List Pq)(b pt:Int):P2 T:=dk T (bs.getD b.toNat bg) (aX l b pt)
def JH(l:Li)(T:LL)(bs:List Pq)(j:Jt):Prop :=
  if j.kind=0 then ao ((bb l T bs j.a j.point).1-(bb l T bs j.b j.on).1)=0/\ao ((bb l T bs j.a j.point).2-(bb l T bs j.b j.on).2)=0
  else ao (j8 (aT (bb l T bs j.b j.to) (bb l T bs j.b j.on)) (aT (bb l T bs j.a j.point) (bb l T bs j.b j.on)))=0
theorem NX{ts:LL}{q:Rat}(h:q≠0):(iE (qE q)*qE q:Et ts)=1:=by
 have e:(iE (qE q):Et ts)=qE (1/q):=CB (aw ts) ts.length q;rw[e,<- rm,show 1/q*q=((1:Nat):Rat) by rw[show(((1:Nat):Rat))=1 from rfl];grind];rfl
section
variable{T:LL}{u p c:Rat×Rat}{w o:P2 T}
theorem B6:dE T (gM u w p o).c=dM u w:=bu _ _
theorem Bg:dE T (gM u w p o).s=dz u w:=bu _ _
theorem Ui:dE T (gM u w p o).x=qN u w p o:=bu _ _
theorem ajf:dE T (gM u w p o).y=rv u w p o:=bu _ _
theorem sG(m:Rat×Rat):dk T (gM u w p o) m=(o.1+(dM u w*qE (m.1-p.1)-dz u w*qE (m.2-p.2)),o.2+(dz u w*qE (m.1-p.1)+dM u w*qE (m.2-p.2))):=by
 unfold dk;rw[B6,Bg,Ui,ajf,qL,qL];unfold qN rv;refine Prod.ext ?_ ?_
 ·dsimp only;grind
 ·dsimp only;grind
theorem xS:dk T (gM u w p o) p=o:=by
 rw[sG,show p.1-p.1=0 by grind,show p.2-p.2=0 by grind,Ej];refine Prod.ext ?_ ?_
 ·dsimp only;grind
 ·dsimp only;grind
theorem GU(h:cr u u≠0):(dM u w*qE u.1-dz u w*qE u.2=w.1/\dz u w*qE u.1+dM u w*qE u.2=w.2):=by
 have hn:(lQ u:Et T)=qE u.1*qE u.1+qE u.2*qE u.2:=by
  show qE (u.1*u.1+u.2*u.2)=_;rw[vE,rm,rm]
 exact(Ru hn (NX h) rfl rfl).1
theorem yD(h:cr (cf c p) (cf c p)≠0):dk T (gM (cf c p) w p o) c=(o.1+w.1,o.2+w.2):=by
 rw[sG];have g:=GU (w:=w) h;have e1:(qE (c.1-p.1):Et T)=qE (cf c p).1:=rfl;have e2:(qE (c.2-p.2):Et T)=qE (cf c p).2:=rfl;rw[e1,e2,g.1,g.2]
theorem CX(hp:gY T)(h:cr u u≠0)(hw:ao (w.1*w.1+w.2*w.2-qE (cr u u))=0):CH T (gM u w p o):=by
 unfold CH;rw[B6,Bg]
 have hn:(lQ u:Et T)=qE u.1*qE u.1+qE u.2*qE u.2:=by
  show qE (u.1*u.1+u.2*u.2)=_;rw[vE,rm,rm]
 have hi:(iE (lQ u)*lQ u:Et T)=1:=NX h;have e:=are (aj hp) hn;have ei:=are (aj hp) hi;have ew:aj hp w.1*aj hp w.1+aj hp w.2*aj hp w.2=aj hp (lQ u):=(o6 hp (x:=w.1*w.1+w.2*w.2) (y:=lQ u)).2 hw;have g:=(Ru (R:=Zq hp) (n:=aj hp (lQ u)) (i:=aj hp (iE (lQ u))) (u1:=aj hp (qE u.1)) (u2:=aj hp (qE u.2)) (c:=aj hp (dM u w)) (s:=aj hp (dz u w)) (w1:=aj hp w.1) (w2:=aj hp w.2) e ei rfl (by unfold dz;rw[co,cz,co,co])).2 ew;refine(o6 hp (x:=dM u w*dM u w+dz u w*dz u w) (y:=1)).1 ?_;exact g
end
def aQ(a:As):List Pq:=a.bs.map fun b=>⟨lq b.c,lq b.s,lq b.x,lq b.y⟩
theorem nH(q:Aq):aQ q.as=q.bs:=by
 unfold aQ Aq.as;rw[map_map]
 conv=>rhs;rw[<- map_id q.bs]
 refine aqz fun p _=>?_
 show(⟨lq (p.c.map rt),lq (p.s.map rt),lq (p.x.map rt),lq (p.y.map rt)⟩:Pq)=p;rw[fQ,fQ,fQ,fQ]
theorem kC(l:Li)(a:As)(b pt:Int):bi l a b pt=bb l (llq a.rs) (aQ a) b pt:=by
 have e:(aQ a).getD b.toNat bg=⟨lq (a.bs.getD b.toNat default).c,lq (a.bs.getD b.toNat default).s,lq (a.bs.getD b.toNat default).x,lq (a.bs.getD b.toNat default).y⟩:=by
  unfold aQ;rw[apq,apq,apv];cases a.bs[b.toNat]? <;> rfl
 unfold bb;rw[e];rfl
def Nq(n:Nat)(p:Pq):Prop:=p.c.length<=2^n/\p.s.length<=2^n/\p.x.length<=2^n/\p.y.length<=2^n
section
variable{ts T:LL}(L:Lf ts T)
include L
theorem Lf.add(x y:Et ts):aj L.pos (aB T (x+y))=aj L.pos (aB T x)+aj L.pos (aB T y):=L.hm.add x y
theorem Lf.mul(x y:Et ts):aj L.pos (aB T (x*y))=aj L.pos (aB T x)*aj L.pos (aB T y):=L.hm.mul x y
theorem Lf.sub(x y:Et ts):aj L.pos (aB T (x-y))=aj L.pos (aB T x)-aj L.pos (aB T y):=L.hm.sub x y
theorem Lf.one:aj L.pos (aB T (1:Et ts))=1:=L.hm.one
theorem Lf.at{p:Pq}(hp:Nq ts.length p)(m:Rat×Rat):aj L.pos (dk T p m).1=aj L.pos (aB T (dk ts p m).1)/\aj L.pos (dk T p m).2=aj L.pos (aB T (dk ts p m).2):=by
 obtain⟨h1,h2,h3,h4⟩:=hp;unfold dk;dsimp only;constructor
 ·rw[L.add,L.sub,L.mul,L.mul,L.low _ h1,L.low _ h2,L.low _ h3,L.q,L.q,jG,cz,co,co]
 ·rw[L.add,L.add,L.mul,L.mul,L.low _ h1,L.low _ h2,L.low _ h4,L.q,L.q,jG,jG,co,co]
theorem Lf.zero(x:Et ts):ao (aB T x)=0↔ao x=0:=(iO L.pos).symm.trans (L.hm.zero x)
theorem Lf.ch{p:Pq}(hp:Nq ts.length p)(h:CH ts p):CH T p:=by
 obtain⟨h1,h2,h3,h4⟩:=hp;have e:=(L.zero _).2 h;have e1:=(iO L.pos).2 e;refine(iO L.pos).1 ?_;rw[L.sub,L.add,L.mul,L.mul,L.low _ h1,L.low _ h2,L.one]at e1;rw[cz,jG,co,co];exact e1
end
end Go.Lw
namespace Go.Lw
open Lean.Grind (CommRing)
def d7(bs bs':List Pq)(n:Nat)(b:Int):Prop:=bs'.getD b.toNat bg=bs.getD b.toNat bg/\Nq n (bs.getD b.toNat bg)
section
variable{ts T:LL}(L:Lf ts T)
include L
theorem Lf.pt(l:Li){bs bs':List Pq}{b:Int}(h:d7 bs bs' ts.length b)(pt:Int) :
  aj L.pos (bb l T bs' b pt).1=aj L.pos (aB T (bb l ts bs b pt).1)/\aj L.pos (bb l T bs' b pt).2=aj L.pos (aB T (bb l ts bs b pt).2):=by
 unfold bb;rw[h.1];exact L.at h.2 _
end
section
variable{T:LL}(hp:gY T)
include hp
theorem AR{l:Li}{bs:List Pq}{j:Jt}(hk:j.kind=0)(h1:aj hp (bb l T bs j.a j.point).1=aj hp (bb l T bs j.b j.on).1)(h2:aj hp (bb l T bs j.a j.point).2=aj hp (bb l T bs j.b j.on).2):JH l T bs j:=by
 unfold JH;rw[aq7 hk];exact⟨(o6 hp).1 h1,(o6 hp).1 h2⟩
theorem Hz{l:Li}{bs:List Pq}{j:Jt}(hk:j.kind≠0)
  (h:(aj hp (bb l T bs j.b j.to).1-aj hp (bb l T bs j.b j.on).1)*(aj hp (bb l T bs j.a j.point).2-aj hp (bb l T bs j.b j.on).2)-(aj hp (bb l T bs j.b j.to).2-aj hp (bb l T bs j.b j.on).2)*(aj hp (bb l T bs j.a j.point).1-aj hp (bb l T bs j.b j.on).1)=0):JH l T bs j:=by
 unfold JH;rw[aq6 hk];refine(iO hp).1 ?_;unfold j8 crsE aT;dsimp only;rw[cz,co,co,cz,cz,cz,cz];exact h
end
section
variable{ts T:LL}(L:Lf ts T)
include L
theorem Lf.jh{l:Li}{bs bs':List Pq}{j:Jt}(ha:d7 bs bs' ts.length j.a)(hb:d7 bs bs' ts.length j.b)(h:JH l ts bs j):JH l T bs' j:=by
 have a:=L.pt l ha;have b:=L.pt l hb
 by_cases hk:j.kind=0
 ·unfold JH at h;rw[aq7 hk]at h;have e1:=(iO L.pos).2 ((L.zero _).2 h.1);have e2:=(iO L.pos).2 ((L.zero _).2 h.2);rw[L.sub]at e1 e2;refine AR L.pos hk ?_ ?_
  ·rw[(a _).1,(b _).1];grind
  ·rw[(a _).2,(b _).2];grind
 ·unfold JH at h;rw[aq6 hk]at h;have e1:=(iO L.pos).2 ((L.zero _).2 h);unfold j8 crsE aT at e1;dsimp only at e1;simp only[L.sub,L.mul]at e1;refine Hz L.pos hk ?_;rw[(a _).1,(a _).2,(b _).1,(b _).2,(b _).1,(b _).2];exact e1
end
section
variable{l:Li}{a:As}{T:LL}(L:Lf (llq a.rs) T)
include L
theorem Lf.pin{bs':List Pq}{j:Jt}{i:Int}(hk:j.kind=0)(tie:(j.a=i/\d7 (aQ a) bs' (llq a.rs).length j.b)\/(j.a≠i/\j.b=i/\d7 (aQ a) bs' (llq a.rs).length j.a))
  (h:dk T (bs'.getD i.toNat bg) (am l j i)=(aB T (aC l a j i).1,aB T (aC l a j i).2)):JH l T bs' j:=by
 have h1:=are Prod.fst h;have h2:=are Prod.snd h;dsimp only at h1 h2;rcases tie with⟨e,hs⟩ |⟨e,e2,hs⟩
 ·have b:=L.pt l hs j.on;unfold am aC at h1 h2;simp only[aq7 e]at h1 h2;rw[kC]at h1 h2;refine AR L.pos hk ?_ ?_
  ·rw[b.1];unfold bb;rw[e];exact are (aj L.pos) h1
  ·rw[b.2];unfold bb;rw[e];exact are (aj L.pos) h2
 ·have b:=L.pt l hs j.point;unfold am aC at h1 h2;simp only[aq6 e]at h1 h2;rw[kC]at h1 h2;refine AR L.pos hk ?_ ?_
  ·rw[b.1]
   conv=>rhs;unfold bb
   rw[e2];exact(are (aj L.pos) h1).symm
  ·rw[b.2]
   conv=>rhs;unfold bb
   rw[e2];exact(are (aj L.pos) h2).symm
end
theorem nZ{bs:List Pq}{i k:Int}{p:Pq}(hi:0<=i)(hk:0<=k)(h:k≠i):(bs.set i.toNat p).getD k.toNat bg=bs.getD k.toNat bg:=by
 rw[apq,apq,List.getElem?_set_ne oz]
theorem qS{bs:List Pq}{i:Nat}{p:Pq}(h:i<bs.length):(bs.set i p).getD i bg=p:=by
 rw[apq,List.getElem?_set_self h];rfl
theorem nq0(n:Nat):Nq n bg:=⟨apx _,apx _,apx _,apx _⟩
theorem Gi{bs:List Pq}{n:Nat}(h:∀p∈bs,Nq n p)(i:Nat):Nq n (bs.getD i bg):=by
 rw[apq];cases e:bs[i]? with
 |none=>exact nq0 n
 |some p=>exact h p (apo e)
structure GrpH(l:Li)(a:As)(g:Gr)(s:Sv):Prop where
  lf:Lf (llq a.rs) s.ts
  js:∀z∈g.jo,JH l s.ts (ba (aQ a) g.bo s.ps) (l.jo.getD z.toNat default)
  cs:∀b∈g.bo,CH s.ts ((ba (aQ a) g.bo s.ps).getD b.toNat bg)
theorem Vh{R:Type}[CommRing R]{C S a1 a2 b1 b2 x1 x2 P1 P2 o1 o2:R}(cB:C*C+S*S=1)(g:x1*(P2-o2)-x2*(P1-o1)=(a1-b1)*b2-(a2-b2)*b1)
  (y1:C*(a1-b1)-S*(a2-b2)=x1) (y2:S*(a1-b1)+C*(a2-b2)=x2) :
  (o1+(C*a1-S*a2)-(o1+(C*b1-S*b2)))*(P2-(o2+(S*b1+C*b2)))-(o2+(S*a1+C*a2)-(o2+(S*b1+C*b2)))*(P1-(o1+(C*b1-S*b2)))=0:=by
 have e1:o1+(C*a1-S*a2)-(o1+(C*b1-S*b2))=x1:=by rw[<- y1];grind
 have e2:o2+(S*a1+C*a2)-(o2+(S*b1+C*b2))=x2:=by rw[<- y2];grind
 rw[e1,e2];have e3:x1*(P2-(o2+(S*b1+C*b2)))-x2*(P1-(o1+(C*b1-S*b2)))=(x1*(P2-o2)-x2*(P1-o1))-(x1*(S*b1+C*b2)-x2*(C*b1-S*b2)):=by clear cB g y1 y2 e1 e2;grind
 have e4:x1*(S*b1+C*b2)-x2*(C*b1-S*b2)=((a1-b1)*b2-(a2-b2)*b1)*(C*C+S*S):=by rw[<- y1,<- y2];clear cB g y1 y2 e1 e2 e3;grind
 rw[e3,e4,g,cB];grind
section
variable{l:Li}{a:As}{r:Nat}(tw:Tw (llq a.rs) r)(hN:∀p∈aQ a,Nq (llq a.rs).length p)
include tw hN
theorem uA{bs':List Pq}{b:Int}(h:bs'.getD b.toNat bg=(aQ a).getD b.toNat bg):d7 (aQ a) bs' (llq a.rs).length b:=by
 have:=tw;exact⟨h,Gi hN _⟩
theorem On{u:Rat×Rat}(h:cr u u≠0):0<ao (qE (cr u u):Et (llq a.rs)):=by
 have:=tw;have:=hN;have h0:0<=cr u u:=Rat.add_nonneg (un u.1) (un u.2)
 have h1:0<cr u u:=by
  rcases Rat.le_iff_lt_or_eq.1 h0 with g |g
  ·exact g
  ·exact ard g.symm h
 rw[BS,Cc h1];decide
theorem U7{i k z0 z1 z2:Int}{j0 j1 j2:Jt}(ne:i≠k)(t0:TieO l 0 [i,k] z0 i j0)(t1:TieO l 0 [i,k] z1 k j1)(h2:l.jo[z2.toNat]?=some j2)(kd:j2.kind=0)
  (tie:(j2.a=i/\j2.b=k)\/(j2.b=i/\j2.a=k)) (hi:0<=i) (hk:0<=k) (dO:i.toNat<(aQ a).length) (D4:k.toNat<(aQ a).length) (hn:∀j∈l.jo,0<=j.a/\0<=j.b)
  {s:Sv} (hs:s∈jX l a i k j0 j1 j2):GrpH l a ⟨1,[i,k],[z0,z1,z2],0⟩ s:=by
 unfold jX at hs;split at hs
 ·cases hs
 ·rename_i hz;obtain⟨w1,w2⟩:=Ag (aou.2 hz);split at hs
  ·cases hs
  ·rename_i hc;have hc:=apn.1 hc;have geo:=agv tw (fun X hX=>vi tw.pos hX) hc (On tw hN w1);unfold gj at hs;obtain ⟨m,hm,rfl⟩:=anx.1 hs;obtain ⟨x,hx⟩:=ay (an2.1 hm);have G:=geo x (apo hx);unfold kO;rw [ax hx];have e0:TieO l 0 [i,k] z0 i j0:=t0;obtain ⟨n0,n1⟩:=hn j0 (apo t0.hj);obtain ⟨n2,n3⟩:=hn j1 (apo t1.hj);have b9:i.toNat ≠ k.toNat:=by omega
   generalize hM:d6 (aC l a j0 i) (aC l a j1 k) (qE (bI (am l j2 i) (am l j0 i))) (qE (bI (am l j2 k) (am l j1 k)))=M at *;obtain⟨B0,fT⟩:∃B0,B0=jp M.ts x ⟨am l j0 i,P2.l (aC l a j0 i),am l j2 i⟩:=⟨_,rfl⟩
   obtain⟨B1,u7⟩:∃B1,B1=jp M.ts x ⟨am l j1 k,P2.l (aC l a j1 k),am l j2 k⟩:=⟨_,rfl⟩
   have ez:ba (aQ a) [i,k] [B0,B1]=((aQ a).set i.toNat B0).set k.toNat B1:=rfl;have g0:(ba (aQ a) [i,k] [B0,B1]).getD i.toNat bg=B0:=by rw[ez,nZ hk hi ne,qS dO]
   have g1:(ba (aQ a) [i,k] [B0,B1]).getD k.toNat bg=B1:=by rw[ez,qS (by rw[aq4];exact D4)]
   have gn:∀b:Int,0<=b->b∉[i,k]->d7 (aQ a) (ba (aQ a) [i,k] [B0,B1]) (llq a.rs).length b:=fun b h0 hb=>uA tw hN (by
    rw[ez,nZ hk h0 (fun e=>hb (by simp[e])),nZ hi h0 (fun e=>hb (by simp[e]))])
   have p0:dk M.ts B0 (am l j0 i)=(aB M.ts (aC l a j0 i).1,aB M.ts (aC l a j0 i).2):=by rw[fT];exact xS
   have p1:dk M.ts B1 (am l j1 k)=(aB M.ts (aC l a j1 k).1,aB M.ts (aC l a j1 k).2):=by rw[u7];exact xS
   have q0:dk M.ts B0 (am l j2 i)=(dE M.ts x.1,dE M.ts x.2):=by
    rw[fT];refine(yD w1).trans ?_;unfold mW kE;refine Prod.ext ?_ ?_
    ·dsimp only;grind
    ·dsimp only;grind
   have q1:dk M.ts B1 (am l j2 k)=(dE M.ts x.1,dE M.ts x.2):=by
    rw[u7];refine(yD w2).trans ?_;unfold mW kE;refine Prod.ext ?_ ?_
    ·dsimp only;grind
    ·dsimp only;grind
   refine⟨G.lf,?_,?_⟩
   ·intro z hz;show JH l M.ts (ba (aQ a) [i,k] [_,_]) _;rw[<- fT,<- u7];rcases aqf.1 hz with rfl |hz
    ·rw [ax t0.hj];refine G.lf.pin t0.kd (i:=i) ?_ (by rw [g0]; exact p0);rcases t0.tie with ⟨e,hb⟩ | ⟨e,hb⟩
     ·exact .inl ⟨e,gn _ n1 hb⟩
     ·exact .inr ⟨fun e2=>hb (by simp[e2]),e,gn _ n0 hb⟩
    ·rcases aqf.1 hz with rfl |hz
     ·rw [ax t1.hj];refine G.lf.pin t1.kd (i:=k) ?_ (by rw [g1]; exact p1);rcases t1.tie with ⟨e,hb⟩ | ⟨e,hb⟩
      ·exact .inl ⟨e,gn _ n3 hb⟩
      ·exact .inr ⟨fun e2=>hb (by simp[e2]),e,gn _ n2 hb⟩
     ·rw[am8.1 hz,ax h2]
      have key:bb l M.ts (ba (aQ a) [i,k] [B0,B1]) j2.a j2.point=bb l M.ts (ba (aQ a) [i,k] [B0,B1]) j2.b j2.on:=by
       unfold bb;rcases tie with⟨e,e'⟩ |⟨e,e'⟩
       ·have c0 : am l j2 i = aX l i j2.point := by unfold am; rw [aq7 e]
        have c1:am l j2 k=aX l k j2.on:=by unfold am;rw[aq6 oz]
        rw[e,e',g0,g1,<- c0,<- c1,q0,q1]
       ·have c0 : am l j2 k = aX l k j2.point := by unfold am; rw [aq7 e']
        have c1:am l j2 i=aX l i j2.on:=by unfold am;rw[aq6 oz]
        rw[e,e',g0,g1,<- c0,<- c1,q0,q1]
      exact AR G.lf.pos kd (by rw[key]) (by rw[key])
   ·intro b hb;show CH M.ts ((ba (aQ a) [i,k] [_,_]).getD b.toNat bg);rw[<- fT,<- u7];rcases aqf.1 hb with rfl |hb
    ·rw[g0,fT];refine CX G.lf.pos w1 ?_;have:=G.c1;rw[G.lf.q]at this;exact this
    ·rw[am8.1 hb,g1,u7];refine CX G.lf.pos w2 ?_;have:=G.c2;rw[G.lf.q]at this;exact this
theorem XW{i z0 z1:Int}{j0 j:Jt}(t0:TieO l 0 [i] z0 i j0)(t1:TieO l 1 [i] z1 i j)(ha:j.a=i)(hi:0<=i)(dO:i.toNat<(aQ a).length)(hn:∀j∈l.jo,0<=j.a/\0<=j.b)
  {s:Sv} (hs:s∈j5 l a i j0 j):GrpH l a ⟨2,[i],[z0,z1],0⟩ s:=by
 unfold j5 at hs;split at hs
 ·cases hs
 ·rename_i hz;have w1:=yx (aou.2 hz);split at hs
  ·cases hs
  ·rename_i hc;have hc:=apn.1 hc;have geo:=Wt tw (fun X hX=>vi tw.pos hX) (c:=aC l a j0 i) (z:=qE (bI (aX l i j.point) (am l j0 i))) hc;unfold gj at hs;obtain⟨m,hm,rfl⟩:=anx.1 hs;obtain⟨x,hx⟩:=ay (an2.1 hm);have G:=geo x (apo hx);have L:=G.lf;unfold kO;rw[ax hx];obtain⟨n0,n1⟩:=hn j0 (apo t0.hj);obtain⟨n2,n3⟩:=hn j (apo t1.hj);generalize hM:eg (bi l a j.b j.on) (bi l a j.b j.to) (aC l a j0 i) (qE (bI (aX l i j.point) (am l j0 i)))=M at *;obtain⟨B0,fT⟩:∃B0,B0=jp M.ts x ⟨am l j0 i,P2.l (aC l a j0 i),aX l i j.point⟩:=⟨_,rfl⟩
   have ez:ba (aQ a) [i] [B0]=(aQ a).set i.toNat B0:=rfl;have g0:(ba (aQ a) [i] [B0]).getD i.toNat bg=B0:=by rw[ez,qS dO]
   have gn:∀b:Int,0<=b->b∉[i]->d7 (aQ a) (ba (aQ a) [i] [B0]) (llq a.rs).length b:=fun b h0 hb=>uA tw hN (by
    rw[ez,nZ hi h0 (fun e=>hb (by simp[e]))])
   have p0:dk M.ts B0 (am l j0 i)=(aB M.ts (aC l a j0 i).1,aB M.ts (aC l a j0 i).2):=by rw[fT];exact xS
   have q0:dk M.ts B0 (aX l i j.point)=(dE M.ts x.1,dE M.ts x.2):=by
    rw[fT];refine(yD w1).trans ?_;unfold mW kE;refine Prod.ext ?_ ?_
    ·dsimp only;grind
    ·dsimp only;grind
   have xq:d7 (aQ a) (ba (aQ a) [i] [B0]) (llq a.rs).length j.b:=by
    rcases t1.tie with⟨e,hb⟩ |⟨e,hb⟩
    ·exact gn _ n3 hb
    ·exact ard (by simp[ha]) hb
   refine⟨G.lf,?_,?_⟩
   ·intro z hz;show JH l M.ts (ba (aQ a) [i] [_]) _;rw[<- fT];rcases aqf.1 hz with rfl |hz
    ·rw [ax t0.hj];refine L.pin t0.kd (i:=i) ?_ (by rw [g0]; exact p0);rcases t0.tie with ⟨e,hb⟩ | ⟨e,hb⟩
     ·exact .inl ⟨e,gn _ n1 hb⟩
     ·exact .inr ⟨fun e2=>hb (by simp[e2]),e,gn _ n0 hb⟩
    ·rw [am8.1 hz, ax t1.hj];refine Hz L.pos (by rw [t1.kd]; decide) ?_;have ec:=(iO L.pos).2 G.l;rw [cz,co,co,cz,cz,cz,cz,kC,kC] at ec;have on:=L.pt l xq j.on;have to:=L.pt l xq j.to
     have pp:bb l M.ts (ba (aQ a) [i] [B0]) j.a j.point=(dE M.ts x.1,dE M.ts x.2):=by
      unfold bb;rw[ha,g0,q0]
     rw[pp,on.1,on.2,to.1,to.2];exact ec
   ·intro b hb;show CH M.ts ((ba (aQ a) [i] [_]).getD b.toNat bg);rw[<- fT,am8.1 hb,g0,fT];refine CX L.pos w1 ?_;have:=G.c;rw[L.q]at this;exact this
theorem GB{i z0 z1:Int}{j0 j:Jt}(t0:TieO l 0 [i] z0 i j0)(t1:TieO l 1 [i] z1 i j)(ha:j.a≠i)(hi:0<=i)(dO:i.toNat<(aQ a).length)(hn:∀j∈l.jo,0<=j.a/\0<=j.b)(hv:cr (cK l i j) (cK l i j)≠0)
  (hd:ao (cO l a i j0 j)≠0) {T:LL} (L:Lf (llq a.rs) T) {q:List Rat} (hq:aj L.pos (dE T q*dE T q)=aj L.pos (aB T (bE l a i j0 j))) {n:Int} :
  GrpH l a ⟨3,[i],[z0,z1],0⟩ ⟨T,[pO T (eT l a i j0 j) q],n⟩:=by
 obtain⟨n0,n1⟩:=hn j0 (apo t0.hj);obtain⟨n2,n3⟩:=hn j (apo t1.hj)
 obtain⟨tb,tn⟩:j.b=i/\j.a∉[i]:=by
  rcases t1.tie with⟨e,hb⟩ |h
  ·exact ard e ha
  ·exact h
 obtain⟨w,hw⟩:∃w:P2 T,w=mL T q (eT l a i j0 j).h (eT l a i j0 j).d (eT l a i j0 j).w:=⟨_,rfl⟩
 obtain⟨o,ho⟩:∃o:P2 T,o=(aB T (aC l a j0 i).1,aB T (aC l a j0 i).2):=⟨_,rfl⟩
 obtain⟨B0,fT⟩:∃B0,B0=gM (cK l i j) w (am l j0 i) o:=⟨_,rfl⟩
 have e0:pO T (eT l a i j0 j) q=B0:=by rw[fT,hw,ho];rfl
 rw[e0];have ez:ba (aQ a) [i] [B0]=(aQ a).set i.toNat B0:=rfl;have g0:(ba (aQ a) [i] [B0]).getD i.toNat bg=B0:=by rw[ez,qS dO]
 have gn:∀b:Int,0<=b->b∉[i]->d7 (aQ a) (ba (aQ a) [i] [B0]) (llq a.rs).length b:=fun b h0 hb=>uA tw hN (by
  rw[ez,nZ hi h0 (fun e=>hb (by simp[e]))])
 have hD:aj L.pos (aB T (cO l a i j0 j))=aj L.pos (aB T (cm l a i j0 j).1)*aj L.pos (aB T (cm l a i j0 j).1)+aj L.pos (aB T (cm l a i j0 j).2)*aj L.pos (aB T (cm l a i j0 j).2):=by
  rw[<- L.mul,<- L.mul,<- L.add];rfl
 have hI:aj L.pos (iE (aB T (cO l a i j0 j)))*aj L.pos (aB T (cO l a i j0 j))=1:=Dk L.pos (fun e=>hd ((L.zero _).1 e))
 have hX:aj L.pos (dE T q)*aj L.pos (dE T q)=aj L.pos (qE (jr l i j))*aj L.pos (aB T (cO l a i j0 j))-aj L.pos (qE (cH l i j0 j))*aj L.pos (qE (cH l i j0 j)):=by
  rw[<- co,hq];unfold bE;rw[L.sub,L.mul,L.mul,L.q,L.q]
 have eh:dE T (eT l a i j0 j).h=qE (cH l i j0 j):=kl _ _;have x1:w.1=(dE T q*aB T (cm l a i j0 j).1-qE (cH l i j0 j)*-aB T (cm l a i j0 j).2)*iE (aB T (cO l a i j0 j)):=by rw[hw,<- eh];rfl
 have x2:w.2=(dE T q*aB T (cm l a i j0 j).2-qE (cH l i j0 j)*aB T (cm l a i j0 j).1)*iE (aB T (cO l a i j0 j)):=by rw[hw,<- eh];rfl
 have G:=ajm hD hI hX (w1:=aj L.pos w.1) (w2:=aj L.pos w.2) (by rw[x1,co,cz,co,co,Mu]) (by rw[x2,co,cz,co,co])
 have hc:CH T B0:=by
  rw[fT];refine CX L.pos hv ?_;refine(o6 L.pos (x:=w.1*w.1+w.2*w.2) (y:=qE (cr (cK l i j) (cK l i j)))).1 ?_;rw[jG,co,co,G.1];rfl
 refine⟨L,?_,?_⟩
 ·intro z hz;show JH l T (ba (aQ a) [i] [B0]) _;rcases aqf.1 hz with rfl |hz
  ·rw [ax t0.hj];refine L.pin t0.kd (i:=i) ?_ (by rw [g0,fT,xS,ho]);rcases t0.tie with ⟨e,hb⟩ | ⟨e,hb⟩
   ·exact .inl ⟨e,gn _ n1 hb⟩
   ·exact .inr ⟨fun e2=>hb (by simp[e2]),e,gn _ n0 hb⟩
  ·rw [am8.1 hz, ax t1.hj];refine Hz L.pos (by rw [t1.kd]; decide) ?_;have pp:=L.pt l (gn _ n2 tn) j.point;have eon:bb l T (ba (aQ a) [i] [B0]) j.b j.on = dk T B0 (aX l i j.on):=by unfold bb; rw [tb,g0]
   have eto:bb l T (ba (aQ a) [i] [B0]) j.b j.to=dk T B0 (aX l i j.to):=by unfold bb;rw[tb,g0]
   have W1:aj L.pos (aB T (cm l a i j0 j).1)=aj L.pos (aB T (bb l (llq a.rs) (aQ a) j.a j.point).1)-aj L.pos o.1:=by
    rw[ho,<- L.sub,<- kC];rfl
   have W2:aj L.pos (aB T (cm l a i j0 j).2)=aj L.pos (aB T (bb l (llq a.rs) (aQ a) j.a j.point).2)-aj L.pos o.2:=by
    rw[ho,<- L.sub,<- kC];rfl
   have g2:=G.2;rw[W1,W2]at g2;rw[pp.1,pp.2,eon,eto,fT,sG,sG];have gg:=GU (w:=w) hv
   have cB:aj L.pos (dM (cK l i j) w)*aj L.pos (dM (cK l i j) w)+aj L.pos (dz (cK l i j) w)*aj L.pos (dz (cK l i j) w)=1:=by
    have h9:=(iO L.pos).2 hc;rw[fT,B6,Bg,cz,jG,co,co,ac5]at h9;grind
   have v1:(qE (cK l i j).1:Et T)=qE ((aX l i j.to).1-(am l j0 i).1)-qE ((aX l i j.on).1-(am l j0 i).1):=by rw[<- qL];congr 1;show(aX l i j.to).1-(aX l i j.on).1=_;grind
   have v2:(qE (cK l i j).2:Et T)=qE ((aX l i j.to).2-(am l j0 i).2)-qE ((aX l i j.on).2-(am l j0 i).2):=by rw[<- qL];congr 1;show(aX l i j.to).2-(aX l i j.on).2=_;grind
   have hh:(qE (cH l i j0 j):Et T)=qE (cK l i j).1*qE ((aX l i j.on).2-(am l j0 i).2)-qE (cK l i j).2*qE ((aX l i j.on).1-(am l j0 i).1):=by
    rw[<- rm,<- rm,<- qL];rfl
   have y1:=are (aj L.pos) gg.1;have y2:=are (aj L.pos) gg.2;rw[hh,cz,co,co]at g2;rw[v1,v2]at g2 y1 y2;simp only[jG,cz,co]at g2 y1 y2 ⊢
   revert cB g2 y1 y2
   generalize aj L.pos (qE ((aX l i j.to).1-(am l j0 i).1):Et T)=a1;generalize aj L.pos (qE ((aX l i j.to).2-(am l j0 i).2):Et T)=a2;generalize aj L.pos (qE ((aX l i j.on).1-(am l j0 i).1):Et T)=b1;generalize aj L.pos (qE ((aX l i j.on).2-(am l j0 i).2):Et T)=b2;generalize aj L.pos (dM (cK l i j) w)=C;generalize aj L.pos (dz (cK l i j) w)=S;generalize aj L.pos (aB T (bb l (llq a.rs) (aQ a) j.a j.point).1)=P1;generalize aj L.pos (aB T (bb l (llq a.rs) (aQ a) j.a j.point).2)=P2;generalize aj L.pos o.1=o1;generalize aj L.pos o.2=o2;generalize aj L.pos w.1=x1;generalize aj L.pos w.2=x2;intro cB g2 y1 y2;exact Vh cB g2 y1 y2
 ·intro b hb;rw[am8.1 hb];show CH T ((ba (aQ a) [i] [B0]).getD i.toNat bg);rw[g0];exact hc
end
end Go.Lw
namespace Go.Lw
open Lean.Grind (CommRing)
theorem aey(half:Bool)(t:Rat):dT half t*dT half t+dV half t*dV half t=1:=by
 unfold dT dV;cases half
 ·have h:1+t*t≠0:=by
   have:=un t;intro e;grind
  simp only[aoz,if_false]
  have e1:(1-t*t)/(1+t*t)*((1-t*t)/(1+t*t))+(t+t)/(1+t*t)*((t+t)/(1+t*t))=((1-t*t)*(1-t*t)+(t+t)*(t+t))*((1+t*t)⁻¹*(1+t*t)⁻¹):=by
   rw[aon,aon];grind
  rw[e1];have e2:(1+t*t)*(1+t*t)⁻¹=1:=Rat.mul_inv_cancel _ h;generalize(1+t*t)⁻¹=k at e2 ⊢;have e3:((1-t*t)*(1-t*t)+(t+t)*(t+t))*(k*k)=((1+t*t)*k)*((1+t*t)*k):=by grind
  rw[e3,e2,Rat.one_mul]
 ·simp only[if_true];decide +kernel
section
variable{l:Li}{a:As}{r:Nat}(tw:Tw (llq a.rs) r)(hN:∀p∈aQ a,Nq (llq a.rs).length p)
include tw hN
theorem Vv{i z0 z1:Int}{j0 j:Jt}(t0:TieO l 0 [i] z0 i j0)(t1:TieO l 1 [i] z1 i j)(ha:j.a≠i)(hi:0<=i)(dO:i.toNat<(aQ a).length)(hn:∀j∈l.jo,0<=j.a/\0<=j.b)(hv:cr (cK l i j) (cK l i j)≠0)
  {s:Sv} (hs:s∈kr l a i j0 j):GrpH l a ⟨3,[i],[z0,z1],0⟩ s:=by
 unfold kr at hs;split at hs
 ·cases hs
 ·rename_i h1;split at hs
  ·cases hs
  ·rename_i h2;have hd:=xI tw h2 h1;split at hs
   ·rename_i h3;have hp:=vi tw.pos h3;have L:=vT (bE l a i j0 j) hp;have e:=F4 (bE l a i j0 j);unfold jK at hs;obtain⟨m,hm,rfl⟩:=anx.1 hs;have hm:=an2.1 hm;unfold j4
    match m,hm with
    |0,_ =>
     refine GB tw hN t0 t1 ha hi dO hn hv hd L ?_;show aj L.pos (bJ (bE l a i j0 j)*bJ (bE l a i j0 j))=_;rw[e];rfl
    |1,_ =>
     refine GB tw hN t0 t1 ha hi dO hn hv hd L ?_;show aj L.pos (dE _ (sX (-bJ (bE l a i j0 j)))*dE _ (sX (-bJ (bE l a i j0 j))))=_;rw[fU,show -bJ (bE l a i j0 j)*-bJ (bE l a i j0 j)=bJ (bE l a i j0 j)*bJ (bE l a i j0 j) by grind,e];rfl
    |m+2,h=>exact ard h (by simp)
   ·rename_i h3;have hX:ao (bE l a i j0 j) = 0:=by omega
    have L:=r8 (ts:=llq a.rs) tw.pos;unfold jK at hs;obtain⟨m,hm,rfl⟩:=anx.1 hs;have hm:=an2.1 hm;unfold j4
    match m,hm with
    |0,_ =>
     refine GB tw hN t0 t1 ha hi dO hn hv hd L ?_;show aj L.pos (dE _ []*dE _ [])=_;have e0:(dE (llq a.rs) []:Et (llq a.rs))=0:=by rw[E.zero_def];exact jM _
     rw[e0,eG];refine((iO L.pos).2 ?_).trans ((iO L.pos).2 hX).symm;rw[show(0:Et (llq a.rs))*0=0 by grind];exact(fZ _ _ L.pos).zero
    |m+1,h=>exact ard h (by simp)
theorem Wd{i z0 d:Int}{j0:Jt}(t0:TieO l 0 [i] z0 i j0)(hi:0<=i)(dO:i.toNat<(aQ a).length)(hn:∀j∈l.jo,0<=j.a/\0<=j.b){x:Tn}
  {s:Sv} (hs:s∈lC l a i j0 x):GrpH l a ⟨0,[i],[z0],d⟩ s/\dE s.ts ((ba (aQ a) [i] s.ps).getD i.toNat bg).c=qE (dT x.half x.t.q)/\dE s.ts ((ba (aQ a) [i] s.ps).getD i.toNat bg).s=qE (dV x.half x.t.q):=by
 unfold lC at hs;split at hs
 ·cases hs
 ·rw[am8.1 hs];obtain⟨n0,n1⟩:=hn j0 (apo t0.hj);have L:=r8 (ts:=llq a.rs) tw.pos;have ez:∀B0,ba (aQ a) [i] [B0]=(aQ a).set i.toNat B0:=fun _=>rfl
  have g0:∀B0,(ba (aQ a) [i] [B0]).getD i.toNat bg=B0:=fun B0=>by rw[ez,qS dO]
  have gn:∀(B0:Pq)(b:Int),0<=b->b∉[i]->d7 (aQ a) (ba (aQ a) [i] [B0]) (llq a.rs).length b:=fun B0 b h0 hb=>uA tw hN (by
   rw[ez,nZ hi h0 (fun e=>hb (by simp[e]))])
  have eN:(lQ (((1:Int):Rat),0):Et (llq a.rs))=qE 1:=are qE (show((1:Int):Rat)*((1:Int):Rat)+0*0=1 by decide +kernel);have q1:(qE 1:Et (llq a.rs))=1:=rfl
  have hc:(dE (llq a.rs) (ot l a i j0 x).c:Et (llq a.rs))=qE (dT x.half x.t.q):=by
   unfold ot;rw[B6];unfold dM;rw[eN,GY,pF,Ej];grind
  have mv:(dE (llq a.rs) (ot l a i j0 x).s:Et (llq a.rs))=qE (dV x.half x.t.q):=by
   unfold ot;rw[Bg];unfold dz;rw[eN,GY,pF,Ej];grind
  refine⟨⟨L,?_,?_⟩,by rw[g0];exact hc,by rw[g0];exact mv⟩
  ·intro z hz;rw [am8.1 hz,ax t0.hj];show JH l (llq a.rs) (ba (aQ a) [i] [ot l a i j0 x]) j0;refine L.pin t0.kd (i:=i) ?_ (by rw [g0,eG,eG]; exact xS);rcases t0.tie with ⟨e,hb⟩ | ⟨e,hb⟩
   ·exact .inl ⟨e,gn _ _ n1 hb⟩
   ·exact .inr ⟨fun e2=>hb (by simp[e2]),e,gn _ _ n0 hb⟩
  ·intro b hb;rw[am8.1 hb];show CH (llq a.rs) ((ba (aQ a) [i] [ot l a i j0 x]).getD i.toNat bg);rw[g0];unfold CH;rw[hc,mv,<- rm,<- rm,<- vE,aey,q1,show(1:Et (llq a.rs))-1=0 by grind];exact(fZ _ _ L.pos).zero
theorem agp{g:Gr}(hg:DyK l g)(mi:∀b∈g.bo,0<=b/\b.toNat<(aQ a).length)(au:aG l=0){x:Tn}{s:Sv}(hs:s∈fq l a g x):GrpH l a g s/\(g.kind=0->dE s.ts ((ba (aQ a) g.bo s.ps).getD (aV g 0).toNat bg).c=qE (dT x.half x.t.q)/\dE s.ts ((ba (aQ a) g.bo s.ps).getD (aV g 0).toNat bg).s=qE (dV x.half x.t.q)):=by
 have hn:∀j∈l.jo,0<=j.a/\0<=j.b:=fun j hj=>by
  obtain⟨n,hn⟩:=aqx hj;obtain⟨i1,i2,_⟩:=ee au hn;have i1:=d5 i1;have i2:=d5 i2;omega
 cases hg with
 | @drv b z d j dr t d0 hd hb =>
  have e:aq l ⟨0,[b],[z],d⟩ 0=j:=ax t.hj;have hs:s∈lC l a b j x:=by rw[<- e];exact hs
  obtain⟨h1,h2⟩:=mi b (by simp);have h:=Wd (d:=d) tw hN t h1 h2 hn hs;exact⟨h.1,fun _=>h.2⟩
 | @rrr i k z0 z1 z2 j0 j1 j2 ne t0 t1 h0 h2 kd tie =>
  have e0:aq l ⟨1,[i,k],[z0,z1,z2],0⟩ 0=j0:=ax t0.hj;have e1:aq l ⟨1,[i,k],[z0,z1,z2],0⟩ 1=j1:=ax t1.hj;have e2:aq l ⟨1,[i,k],[z0,z1,z2],0⟩ 2=j2:=ax h2;have hs:s∈jX l a i k j0 j1 j2:=by rw[<- e0,<- e1,<- e2];exact hs
  obtain⟨b1,b2⟩:=mi i (by simp);obtain⟨b3,b4⟩:=mi k (by simp);exact⟨U7 tw hN ne t0 t1 h2 kd tie b1 b3 b2 b4 hn hs,fun h=>ard h (by simp)⟩
 | @pr i z0 z1 j0 j1 t0 t1 ha =>
  have e0:aq l ⟨2,[i],[z0,z1],0⟩ 0=j0:=ax t0.hj;have e1:aq l ⟨2,[i],[z0,z1],0⟩ 1=j1:=ax t1.hj;have hs:s∈j5 l a i j0 j1:=by rw[<- e0,<- e1];exact hs
  obtain⟨b1,b2⟩:=mi i (by simp);exact⟨XW tw hN t0 t1 ha b1 b2 hn hs,fun h=>ard h (by simp)⟩
 | @rp i z0 z1 j0 j1 t0 t1 ha =>
  have e0:aq l ⟨3,[i],[z0,z1],0⟩ 0=j0:=ax t0.hj;have e1:aq l ⟨3,[i],[z0,z1],0⟩ 1=j1:=ax t1.hj;have hs:s∈kr l a i j0 j1:=by rw[<- e0,<- e1];exact hs
  obtain⟨b1,b2⟩:=mi i (by simp)
  have tb:j1.b=i:=by
   rcases t1.tie with⟨e,_⟩ |⟨e,_⟩
   ·exact ard e ha
   ·exact e
  exact⟨Vv tw hN t0 t1 ha b1 b2 hn (De au t1.hj (by rw[t1.kd];decide) tb) hs,fun h=>ard h (by simp)⟩
end
end Go.Lw
namespace Go.Lw
open Lean.Grind (CommRing)
theorem Uj{n N:Nat}(hN:N=n+1){r:(k:Nat)->T k}(h:T.sgn r n (r n)=1):T.sgn r N (af N (dg n))=1:=by
 subst hN;rw[JU];show T.sgn3 (T.sgn r n (T.zero n)) (T.sgn r n (T.ofQ n 1)) (T.sgn r n (r n)) _=1;rw[h,T.sgn_zero,T.sgn_ofQ];have e:ci 1=1:=by decide +kernel
 rw[e];rfl
theorem H4{ts:LL}{X:Et ts}(h:ao X=1):ao (bJ X)=1:=by
 refine Uj (fp _ _) ?_;rw[A5 (apu _)]
 have e1:aw (aW ts (sX X)) ts.length=X:=by
  show af ts.length ((aW ts (sX X)).getD ts.length [])=X;rw[zf,rS];exact bu _ _
 rw[e1];exact h
theorem Mm{ts:LL}(hp:gY ts){X:Et ts}(h:0<ao X):ao X=1:=by
 rcases(fZ _ _ hp).cs X with g |g |g
 ·have g:ao X=-1:=g;omega
 ·have g:ao X=0:=g;omega
 ·exact g
theorem DE{ts:LL}(hp:gY ts){x y:Et ts}(h:aj hp x=aj hp y):ao x=ao y:=(fZ _ _ hp).sub0 ((o6 hp).1 h)
theorem G7{ts:LL}(hp:gY ts)(x:Et ts):ao (-x)=-ao x:=(fZ _ _ hp).neg x
theorem abh{ts:LL}(hp:gY ts)(x:Et ts):ao (x+x)=ao x:=by
 have H:=fZ (aw ts) ts.length hp;show sg _ _ (x+x)=sg _ _ x;rcases H.cs x with h |h |h
 ·have n:=H.neg x;have a:=H.padd (x:=-x) (y:=-x) oz oz;have e:=H.neg (x+x);rw[show -(x+x)=-x+-x by grind,a]at e;omega
 ·rw[H.zadd h]
 ·rw[H.padd h oz];exact h.symm
section
variable{R:Type}[CommRing R]
theorem ae7{p1 p2 q1 q2 i t a x y:R}(hi:i*(((p1-q1)*(p1-q1)+(p2-q2)*(p2-q2))+((p1-q1)*(p1-q1)+(p2-q2)*(p2-q2)))=1)
  (hx:x=p1+a*i*(q1-p1)+t*(i*-(q2-p2))) (hy:y=p2+a*i*(q2-p2)+t*(i*(q1-p1))) :
  ((q1-p1)*(y-p2)-(q2-p2)*(x-p1))+((q1-p1)*(y-p2)-(q2-p2)*(x-p1))=t:=by
 have e:((q1-p1)*(y-p2)-(q2-p2)*(x-p1))+((q1-p1)*(y-p2)-(q2-p2)*(x-p1))=t*(i*(((p1-q1)*(p1-q1)+(p2-q2)*(p2-q2))+((p1-q1)*(p1-q1)+(p2-q2)*(p2-q2)))):=by
  rw[hx,hy];clear hi hx hy;grind
 rw[e,hi];grind
theorem Vp{p1 p2 q1 q2 c1 c2 i t k x y:R}(hi:i*((q1-p1)*(q1-p1)+(q2-p2)*(q2-p2))=1)(hk:k=((q1-p1)*(c1-p1)+(q2-p2)*(c2-p2)+t)*i)
  (hx:x=p1+k*(q1-p1)) (hy:y=p2+k*(q2-p2)):(q1-p1)*(x-c1)+(q2-p2)*(y-c2)=t:=by
 have e:(q1-p1)*(x-c1)+(q2-p2)*(y-c2)=k*((q1-p1)*(q1-p1)+(q2-p2)*(q2-p2))-((q1-p1)*(c1-p1)+(q2-p2)*(c2-p2)):=by
  rw[hx,hy];clear hi hk hx hy;grind
 have e2:k*((q1-p1)*(q1-p1)+(q2-p2)*(q2-p2))=((q1-p1)*(c1-p1)+(q2-p2)*(c2-p2)+t)*(i*((q1-p1)*(q1-p1)+(q2-p2)*(q2-p2))):=by
  rw[hk];clear hi hk hx hy e;grind
 rw[e,e2,hi];grind
theorem Xy{W1 W2 hh i t D w1 w2:R}(hD:D=W1*W1+W2*W2)(hi:i*D=1)(h1:w1=(t*W1-hh*-W2)*i)(h2:w2=(t*W2-hh*W1)*i):w1*W1+w2*W2=t:=by
 have e:w1*W1+w2*W2=t*(i*D):=by rw[h1,h2,hD];clear hD hi h1 h2;grind
 rw[e,hi];grind
theorem V1{ts:LL}{f:Et ts->R}(h:Hm f){p q:P2 ts}{z z2:Et ts}(dP:ao (aE p q+aE p q)≠0){t x y:R}
  (hx:x=f (dH p q z z2).1+t*f (jU p q).1) (hy:y=f (dH p q z z2).2+t*f (jU p q).2) :
  ((f q.1-f p.1)*(y-f p.2)-(f q.2-f p.2)*(x-f p.1))+((f q.1-f p.1)*(y-f p.2)-(f q.2-f p.2)*(x-f p.1))=t:=by
 have d:=OL h p q;have hi:=h.inv _ dP;rw[h.add,d]at hi;refine ae7 hi (a:=f z+((f p.1-f q.1)*(f p.1-f q.1)+(f p.2-f q.2)*(f p.2-f q.2))-f z2) ?_ ?_
 ·rw[hx,Ca];unfold cW jU;dsimp only;show f (p.1+qE ((1:Int):Rat)*iE (aE p q+aE p q)*(z+aE p q-z2)*(q.1-p.1))+t*f (qE ((1:Int):Rat)*iE (aE p q+aE p q)*(0-(q.2-p.2)))=_;simp only[h.add,h.mul,h.sub,h.q1,h.nul,d];generalize(f p.1-f q.1)*(f p.1-f q.1)+(f p.2-f q.2)*(f p.2-f q.2)=D;generalize f (iE (aE p q+aE p q))=i;clear hi hx hy d;grind
 ·rw[hy,Ca];unfold cW jU;dsimp only;show f (p.2+qE ((1:Int):Rat)*iE (aE p q+aE p q)*(z+aE p q-z2)*(q.2-p.2))+t*f (qE ((1:Int):Rat)*iE (aE p q+aE p q)*(q.1-p.1))=_;simp only[h.add,h.mul,h.sub,h.q1,d];generalize(f p.1-f q.1)*(f p.1-f q.1)+(f p.2-f q.2)*(f p.2-f q.2)=D;generalize f (iE (aE p q+aE p q))=i;clear hi hx hy d;grind
theorem ZX{ts:LL}{f:Et ts->R}(h:Hm f){p q c:P2 ts}(hd:ao (bq p q)≠0){t x y:R}
  (hx:x=f (cW p (bW p q c*iE (bq p q)) (aT q p)).1+t*f (jP p q).1) (hy:y=f (cW p (bW p q c*iE (bq p q)) (aT q p)).2+t*f (jP p q).2) :
  (f q.1-f p.1)*(x-f c.1)+(f q.2-f p.2)*(y-f c.2)=t:=by
 have hi:=h.inv _ hd
 have eS:f (bq p q)=(f q.1-f p.1)*(f q.1-f p.1)+(f q.2-f p.2)*(f q.2-f p.2):=by
  show f ((q.1-p.1)*(q.1-p.1)+(q.2-p.2)*(q.2-p.2))=_;simp only[h.add,h.mul,h.sub]
 have eE:f (bW p q c)=(f q.1-f p.1)*(f c.1-f p.1)+(f q.2-f p.2)*(f c.2-f p.2):=by
  show f ((q.1-p.1)*(c.1-p.1)+(q.2-p.2)*(c.2-p.2))=_;simp only[h.add,h.mul,h.sub]
 rw[eS]at hi;refine Vp hi (k:=(f (bW p q c)+t)*f (iE (bq p q))) (by rw[eE]) ?_ ?_
 ·rw[hx];unfold cW jP;show f (p.1+bW p q c*iE (bq p q)*(q.1-p.1))+t*f (qE ((1:Int):Rat)*iE (bq p q)*(q.1-p.1))=_;simp only[h.add,h.mul,h.sub,h.q1];generalize f (iE (bq p q))=i;generalize f (bW p q c)=e;clear hi hx hy eS eE;grind
 ·rw[hy];unfold cW jP;show f (p.2+bW p q c*iE (bq p q)*(q.2-p.2))+t*f (qE ((1:Int):Rat)*iE (bq p q)*(q.2-p.2))=_;simp only[h.add,h.mul,h.sub,h.q1];generalize f (iE (bq p q))=i;generalize f (bW p q c)=e;clear hi hx hy eS eE;grind
end
structure CirD(ts T:LL)(x:List Rat×List Rat)(p q:P2 ts)(z z2:Et ts)(m:Int):Prop where
  lf:Lf ts T
  ex:∀d:Et T,aj lf.pos d=(aj lf.pos (aB T q.1)-aj lf.pos (aB T p.1))*(aj lf.pos (dE T x.2)-aj lf.pos (aB T p.2))-(aj lf.pos (aB T q.2)-aj lf.pos (aB T p.2))*(aj lf.pos (dE T x.1)-aj lf.pos (aB T p.1)) ->
    ao d=m
section
variable{ts:LL}
theorem Ie{T:LL}(L:Lf ts T){x:List Rat×List Rat}{p q:P2 ts}{z z2:Et ts}(dP:ao (aE p q+aE p q)≠0){t:Et T}
  (hx:dE T x.1=aB T (dH p q z z2).1+t*aB T (jU p q).1) (hy:dE T x.2=aB T (dH p q z z2).2+t*aB T (jU p q).2) {m:Int} (hm:ao t=m):CirD ts T x p q z z2 m:=by
 have g:=V1 L.hm dP (z:=z) (z2:=z2) (t:=aj L.pos t) (x:=aj L.pos (dE T x.1)) (y:=aj L.pos (dE T x.2)) (by rw[hx];rfl) (by rw[hy];rfl);refine⟨L,fun d hd=>?_⟩;have e:aj L.pos (d+d)=aj L.pos t:=by rw[jG,hd];exact g
 rw[<- hm,<- abh L.pos d];exact DE L.pos e
theorem ai3{r:Nat}(tw:Tw ts r){p q:P2 ts}{z z2:Et ts}(h0:gq p q z z2=0)(hz:0<ao z) :
  ∀(i:Nat)(x:List Rat×List Rat),(d6 p q z z2).ps[i]?=some x->CirD ts (d6 p q z z2).ts x p q z z2 (if(d6 p q z z2).ps.length=1 then 0 else 1-2*(i:Int)):=by
 intro i x;unfold gq pZ at h0;unfold d6;split
 ·rename_i hd;rw[aq7 hd]at h0;unfold k9;split
  ·intro hx;simp at hx
  ·intro hx;simp at hx
 ·rename_i hd;have dP:=NI tw hd;split
  ·intro hx;simp at hx
  ·rename_i hn;split
   ·rename_i hX;intro hx
    match i,hx with
    |0,hx =>
     have hx:(dH p q z z2).l=x:=Option.some.inj hx;subst hx;have hp:gY ts:=tw.pos;refine Ie (r8 hp) dP (t:=0) ?_ ?_ ?_
     ·rw[eG,eG,fU];grind
     ·rw[eG,eG,fU];grind
     ·exact(fZ _ _ hp).zero
    |i+1,hx=>simp at hx
   ·rename_i hX;have tp:0 < ao (bw p z q z2):=by omega
    have hp:=vi tw.pos tp;have L:=vT (bw p z q z2) hp;have s1:=H4 (Mm tw.pos tp);intro hx
    match i,hx with
    |0,hx =>
     have hx:(i7 (bw p z q z2) (dH p q z z2) (gT p q) (fS (bw p z q z2) (aE p q))).l=x:=Option.some.inj hx;subst hx;refine Ie L dP (t:=bJ (bw p z q z2)) ?_ ?_ s1
     ·rw[fU];exact are Prod.fst (yM (bw p z q z2) (dH p q z z2) p q)
     ·rw[fU];exact are Prod.snd (yM (bw p z q z2) (dH p q z z2) p q)
    |1,hx =>
     have hx:(i7 (bw p z q z2) (dH p q z z2) (gT p q) (qE ((-1:Int):Rat)*fS (bw p z q z2) (aE p q))).l=x:=Option.some.inj hx;subst hx;refine Ie L dP (t:=-bJ (bw p z q z2)) ?_ ?_ (by rw[G7 hp,s1];rfl)
     ·rw[fU,are Prod.fst (A7 (bw p z q z2) (dH p q z z2) p q)];show aP _ _-_*aP _ _=aP _ _+-_*aP _ _;grind
     ·rw[fU,are Prod.snd (A7 (bw p z q z2) (dH p q z z2) p q)];show aP _ _-_*aP _ _=aP _ _+-_*aP _ _;grind
    |i+2,hx=>simp at hx
structure LinD(ts T:LL)(x:List Rat×List Rat)(p q c:P2 ts)(z:Et ts)(m:Int):Prop where
  lf:Lf ts T
  ex:∀d:Et T,aj lf.pos d=(aj lf.pos (aB T q.1)-aj lf.pos (aB T p.1))*(aj lf.pos (dE T x.1)-aj lf.pos (aB T c.1))+(aj lf.pos (aB T q.2)-aj lf.pos (aB T p.2))*(aj lf.pos (dE T x.2)-aj lf.pos (aB T c.2)) ->
    ao d=m
theorem HZ{T:LL}(L:Lf ts T){x:List Rat×List Rat}{p q c:P2 ts}{z:Et ts}(hd:ao (bq p q)≠0){t:Et T}
  (hx:dE T x.1=aB T (cW p (bW p q c*iE (bq p q)) (aT q p)).1+t*aB T (jP p q).1) (hy:dE T x.2=aB T (cW p (bW p q c*iE (bq p q)) (aT q p)).2+t*aB T (jP p q).2) {m:Int} (hm:ao t=m):LinD ts T x p q c z m:=by
 have g:=ZX L.hm hd (c:=c) (t:=aj L.pos t) (x:=aj L.pos (dE T x.1)) (y:=aj L.pos (dE T x.2)) (by rw[hx];rfl) (by rw[hy];rfl);refine⟨L,fun d hd=>?_⟩;have e:aj L.pos d=aj L.pos t:=by rw[hd];exact g
 rw[<- hm];exact DE L.pos e
theorem ac3{r:Nat}(tw:Tw ts r){p q c:P2 ts}{z:Et ts}(h0:gd p q=0) :
  ∀(i:Nat)(x:List Rat×List Rat),(eg p q c z).ps[i]?=some x->LinD ts (eg p q c z).ts x p q c z (if(eg p q c z).ps.length=1 then 0 else 1-2*(i:Int)):=by
 intro i x;unfold gd at h0;unfold eg;split
 ·intro hx;simp at hx
 ·rename_i hd;split
  ·intro hx;simp at hx
  ·rename_i hn;split
   ·rename_i hX;intro hx
    match i,hx with
    |0,hx =>
     have hx:(cW p (bW p q c*iE (bq p q)) (aT q p)).l=x:=Option.some.inj hx;subst hx;have hp:gY ts:=tw.pos;refine HZ (r8 hp) hd (t:=0) ?_ ?_ ?_
     ·rw[eG,eG,fU];grind
     ·rw[eG,eG,fU];grind
     ·exact(fZ _ _ hp).zero
    |i+1,hx=>simp at hx
   ·rename_i hX
    have hX2:ao (aY p q c z)=1:=by
     rcases(fZ _ _ tw.pos).cs (aY p q c z)with g |g |g
     ·exact ard g hn
     ·exact ard g hX
     ·exact g
    have tp:0<ao (aY p q c z):=by omega
    have hp:=vi tw.pos tp;have L:=vT (aY p q c z) hp;have s1:=H4 hX2;intro hx
    match i,hx with
    |0,hx =>
     have hx:(kM (aY p q c z) p (aT q p) (iw (aY p q c z) (bq p q) (aP (aY p q c z) (bW p q c)+bJ (aY p q c z)))).l=x:=Option.some.inj hx;subst hx;refine HZ L hd (t:=bJ (aY p q c z)) ?_ ?_ s1
     ·rw[fU];exact are Prod.fst (AY (aY p q c z) p q c)
     ·rw[fU];exact are Prod.snd (AY (aY p q c z) p q c)
    |1,hx =>
     have hx:(kM (aY p q c z) p (aT q p) (iw (aY p q c z) (bq p q) (aP (aY p q c z) (bW p q c)-bJ (aY p q c z)))).l=x:=Option.some.inj hx;subst hx;refine HZ L hd (t:=-bJ (aY p q c z)) ?_ ?_ (by rw[G7 hp,s1];rfl)
     ·rw[fU,are Prod.fst (CP (aY p q c z) p q c)];show aP _ _-_*aP _ _=aP _ _+-_*aP _ _;grind
     ·rw[fU,are Prod.snd (CP (aY p q c z) p q c)];show aP _ _-_*aP _ _=aP _ _+-_*aP _ _;grind
    |i+2,hx=>simp at hx
end
def pinP(l:Li)(T:LL)(bs:List Pq)(j:Jt)(b:Int):P2 T:=if j.a=b then bb l T bs j.b j.on else bb l T bs j.a j.point
def dB(l:Li)(T:LL)(bs:List Pq)(g:Gr):Et T :=
  if g.kind=0 then qE 1
  else if g.kind=1 then j8 (aT (pinP l T bs (aq l g 1) (aV g 1)) (pinP l T bs (aq l g 0) (aV g 0))) (aT (dk T (bs.getD (aV g 0).toNat bg) (am l (aq l g 2) (aV g 0))) (pinP l T bs (aq l g 0) (aV g 0)))
  else if g.kind=2 then cJ (aT (bb l T bs (aq l g 1).b (aq l g 1).to) (bb l T bs (aq l g 1).b (aq l g 1).on)) (aT (dk T (bs.getD (aV g 0).toNat bg) (aX l (aV g 0) (aq l g 1).point)) (pinP l T bs (aq l g 0) (aV g 0)))
  else cJ (aT (bb l T bs (aq l g 1).b (aq l g 1).to) (bb l T bs (aq l g 1).b (aq l g 1).on)) (aT (bb l T bs (aq l g 1).a (aq l g 1).point) (pinP l T bs (aq l g 0) (aV g 0)))
def vW(l:Li)(T:LL)(bs:List Pq)(g:Gr):Et T :=
  if g.kind=0 then qE 1
  else if g.kind=1 then bw (pinP l T bs (aq l g 0) (aV g 0)) (qE (bI (am l (aq l g 2) (aV g 0)) (am l (aq l g 0) (aV g 0)))) (pinP l T bs (aq l g 1) (aV g 1)) (qE (bI (am l (aq l g 2) (aV g 1)) (am l (aq l g 1) (aV g 1))))
  else if g.kind=2 then aY (bb l T bs (aq l g 1).b (aq l g 1).on) (bb l T bs (aq l g 1).b (aq l g 1).to) (pinP l T bs (aq l g 0) (aV g 0)) (qE (bI (aX l (aV g 0) (aq l g 1).point) (am l (aq l g 0) (aV g 0))))
  else qE (jr l (aV g 0) (aq l g 1))*cJ (aT (bb l T bs (aq l g 1).a (aq l g 1).point) (pinP l T bs (aq l g 0) (aV g 0))) (aT (bb l T bs (aq l g 1).a (aq l g 1).point) (pinP l T bs (aq l g 0) (aV g 0)))
    - qE (cH l (aV g 0) (aq l g 0) (aq l g 1))*qE (cH l (aV g 0) (aq l g 0) (aq l g 1))
theorem qM(l:Li)(a:As)(j:Jt)(b:Int):aC l a j b=pinP l (llq a.rs) (aQ a) j b:=by
 unfold aC pinP;split
 ·exact kC l a _ _
 ·exact kC l a _ _
theorem aa7(a:As)(b:Int)(q:Rat×Rat):oX a b q=dk (llq a.rs) ((aQ a).getD b.toNat bg) q:=by
 have e:(aQ a).getD b.toNat bg=⟨lq (a.bs.getD b.toNat default).c,lq (a.bs.getD b.toNat default).s,lq (a.bs.getD b.toNat default).x,lq (a.bs.getD b.toNat default).y⟩:=by
  unfold aQ;rw[apq,apq,apv];cases a.bs[b.toNat]? <;> rfl
 rw[e];rfl
theorem agz(l:Li)(a:As)(g:Gr):lT l a g=dB l (llq a.rs) (aQ a) g:=by
 unfold lT dB cm;simp only[qM,kC,aa7]
theorem En(l:Li)(a:As)(g:Gr):Hu l a g=vW l (llq a.rs) (aQ a) g:=by
 unfold Hu vW cO cm;simp only[qM,kC];rfl
section
variable{ts T:LL}(L:Lf ts T)
include L
theorem Lf.pinP{l:Li}{bs bs':List Pq}{j:Jt}(b:Int)(ha:d7 bs bs' ts.length j.a)(hb:d7 bs bs' ts.length j.b) :
  aj L.pos (Lw.pinP l T bs' j b).1=aj L.pos (aB T (Lw.pinP l ts bs j b).1)/\aj L.pos (Lw.pinP l T bs' j b).2=aj L.pos (aB T (Lw.pinP l ts bs j b).2):=by
 unfold Lw.pinP;split
 ·exact L.pt l hb _
 ·exact L.pt l ha _
theorem ahi{l:Li}{bs bs':List Pq}{g:Gr}(h0:g.kind≠0->d7 bs bs' ts.length (aq l g 0).a/\d7 bs bs' ts.length (aq l g 0).b)(h1:g.kind≠0->d7 bs bs' ts.length (aq l g 1).a/\d7 bs bs' ts.length (aq l g 1).b)
  (hb:g.kind≠0->d7 bs bs' ts.length (aV g 0)):aj L.pos (dB l T bs' g)=aj L.pos (aB T (dB l ts bs g)):=by
 unfold dB
 by_cases k0:g.kind=0
 ·rw[aq7 k0,aq7 k0,L.q]
 ·rw[aq6 k0,aq6 k0];have p0:=L.pinP (l:=l) (aV g 0) (h0 k0).1 (h0 k0).2;have p1:=L.pinP (l:=l) (aV g 1) (h1 k0).1 (h1 k0).2
  have own:∀m,aj L.pos (dk T (bs'.getD (aV g 0).toNat bg) m).1=aj L.pos (aB T (dk ts (bs.getD (aV g 0).toNat bg) m).1)/\aj L.pos (dk T (bs'.getD (aV g 0).toNat bg) m).2=aj L.pos (aB T (dk ts (bs.getD (aV g 0).toNat bg) m).2):=by
   intro m;rw[(hb k0).1];exact L.at (hb k0).2 m
  have qa:=fun pt=>L.pt l (h1 k0).1 pt
  have qb:=fun pt=>L.pt l (h1 k0).2 pt
  by_cases k1:g.kind=1
  ·rw[aq7 k1,aq7 k1];unfold j8 crsE aT;dsimp only;simp only[L.sub,L.mul,cz,co];rw[p0.1,p0.2,p1.1,p1.2,(own _).1,(own _).2]
  ·rw[aq6 k1,aq6 k1]
   by_cases k2:g.kind=2
   ·rw[aq7 k2,aq7 k2];unfold cJ dotE aT;dsimp only;simp only[L.sub,L.mul,L.add,cz,co,jG];rw[p0.1,p0.2,(own _).1,(own _).2,(qb _).1,(qb _).2,(qb _).1,(qb _).2]
   ·rw[aq6 k2,aq6 k2];unfold cJ dotE aT;dsimp only;simp only[L.sub,L.mul,L.add,cz,co,jG];rw[p0.1,p0.2,(qa _).1,(qa _).2,(qb _).1,(qb _).2,(qb _).1,(qb _).2]
theorem FC{l:Li}{bs bs':List Pq}{g:Gr}(p0:g.kind≠0->aj L.pos (Lw.pinP l T bs' (aq l g 0) (aV g 0)).1=aj L.pos (aB T (Lw.pinP l ts bs (aq l g 0) (aV g 0)).1)/\aj L.pos (Lw.pinP l T bs' (aq l g 0) (aV g 0)).2=aj L.pos (aB T (Lw.pinP l ts bs (aq l g 0) (aV g 0)).2))
  (p1:g.kind=1->aj L.pos (Lw.pinP l T bs' (aq l g 1) (aV g 1)).1=aj L.pos (aB T (Lw.pinP l ts bs (aq l g 1) (aV g 1)).1)/\aj L.pos (Lw.pinP l T bs' (aq l g 1) (aV g 1)).2=aj L.pos (aB T (Lw.pinP l ts bs (aq l g 1) (aV g 1)).2))
  (hb:g.kind=2->∀pt,aj L.pos (bb l T bs' (aq l g 1).b pt).1=aj L.pos (aB T (bb l ts bs (aq l g 1).b pt).1)/\aj L.pos (bb l T bs' (aq l g 1).b pt).2=aj L.pos (aB T (bb l ts bs (aq l g 1).b pt).2))
  (ha:g.kind≠0->g.kind≠1->g.kind≠2->∀pt,aj L.pos (bb l T bs' (aq l g 1).a pt).1=aj L.pos (aB T (bb l ts bs (aq l g 1).a pt).1)/\aj L.pos (bb l T bs' (aq l g 1).a pt).2=aj L.pos (aB T (bb l ts bs (aq l g 1).a pt).2)) :
  aj L.pos (vW l T bs' g)=aj L.pos (aB T (vW l ts bs g)):=by
 unfold vW
 by_cases k0:g.kind=0
 ·rw[aq7 k0,aq7 k0,L.q]
 ·rw[aq6 k0,aq6 k0];have p0:=p0 k0
  by_cases k1:g.kind=1
  ·rw[aq7 k1,aq7 k1];have p1:=p1 k1;unfold bw aE cJ dotE aT;dsimp only;simp only[L.sub,L.mul,L.add,L.q,cz,co,jG];rw[p0.1,p0.2,p1.1,p1.2]
  ·rw[aq6 k1,aq6 k1]
   by_cases k2:g.kind=2
   ·rw[aq7 k2,aq7 k2];have qb:=hb k2;unfold aY bq iD cJ dotE j8 crsE aT;dsimp only;simp only[L.sub,L.mul,L.add,L.q,cz,co,jG];rw[p0.1,p0.2,(qb _).1,(qb _).2,(qb _).1,(qb _).2]
   ·rw[aq6 k2,aq6 k2];have qa:=ha k0 k1 k2;unfold cJ dotE aT;dsimp only;simp only[L.sub,L.mul,L.add,L.q,cz,co,jG];rw[p0.1,p0.2,(qa _).1,(qa _).2]
end
end Go.Lw
namespace Go.Lw
open Lean.Grind (CommRing)
section
variable{R:Type}[CommRing R]
end
section
variable{T:LL}(hp:gY T){p:Pq}
include hp
end
section
variable{l:Li}{T:LL}{bs:List Pq}{g:Gr}
theorem V2(h:g.kind=1):dB l T bs g=j8 (aT (pinP l T bs (aq l g 1) (aV g 1)) (pinP l T bs (aq l g 0) (aV g 0))) (aT (dk T (bs.getD (aV g 0).toNat bg) (am l (aq l g 2) (aV g 0))) (pinP l T bs (aq l g 0) (aV g 0))):=by
 unfold dB;rw[aq6 oz,aq7 h]
theorem Zc(h:g.kind=2):dB l T bs g=cJ (aT (bb l T bs (aq l g 1).b (aq l g 1).to) (bb l T bs (aq l g 1).b (aq l g 1).on)) (aT (dk T (bs.getD (aV g 0).toNat bg) (aX l (aV g 0) (aq l g 1).point)) (pinP l T bs (aq l g 0) (aV g 0))):=by
 unfold dB;rw[aq6 oz,aq6 oz,aq7 h]
theorem Vb(h:g.kind=3):dB l T bs g=cJ (aT (bb l T bs (aq l g 1).b (aq l g 1).to) (bb l T bs (aq l g 1).b (aq l g 1).on)) (aT (bb l T bs (aq l g 1).a (aq l g 1).point) (pinP l T bs (aq l g 0) (aV g 0))):=by
 unfold dB;rw[aq6 oz,aq6 oz,aq6 oz]
end
section
variable{l:Li}{T:LL}(hp:gY T){bs:List Pq}
include hp
end
end Go.Lw
namespace Go.Lw
open Go.Proofs
theorem LH{P:arj}{f:FuncId}{sz:Nat}{r:AV}{H H':Hp}(h:∀(a:Option Addr)(cap:Nat),Con P f [.v (.slice a 0 cap)] H r H'):Con P f [.lst sz []] H r H' :=
 ⟨(h none 0).ok,fun ext m w vs he hr hn hv=>by
  have kV:vs.size=1:=hn;have h0:=hv 0 vs[0] (.lst sz []) (by simp[kV]) rfl
  have hy:∃a cap,vs[0]=.slice a 0 cap:=by
   generalize vs[0]=y at h0;cases h0 with
   |lst0 a cap=>exact⟨_,_,rfl⟩
   |lst u hb hc hl hs h1 hu bn=>exact⟨_,_,rfl⟩
  obtain⟨a,cap,hy⟩:=hy;refine(h a cap).ret ext m w vs he hr hn (fun j v x jA hx=>?_)
  match j,hx with
  |0,hx =>
   cases hx;have:v=.slice a 0 cap:=by rw[<- hy];have:=Array.getElem?_eq_some_iff.1 jA;exact this.2.symm
   subst this;exact .v _⟩
theorem acj(e:AV)(es:List AV)(hc:∀x∈e::es,x.cells.length=1)(hl:(e::es).length<=1000):Con prog 277 [.lst 1 (e::es)] [] (.ms 901 1 0 (e::es).length) [pP 901 (.row 1 (e::es))]:=by
 refine gF func277 (fun k z h=>by cases h) ?_;refine gs (CJ (.tmp rfl) (by kernel_rfl) rfl) ?_;refine gf ?_;refine gs (j6 T46 rfl T3 rfl rfl rfl) ?_;refine gs (cF (.tmp rfl) rfl rfl (.tmp rfl) T46 rfl T3 rfl rfl (by simp only[];omega) rfl rfl) ?_ (77777,0);refine gW (Wk.of (sl:=[pP 2 (.ms 7 1 0 (e::es).length)]) (hp:=[pP 7 (.row 1 (e::es))]) (.cons rfl (.of (are (AV.ms 7 1 0) (ams _))) .nil) (.k .nil)) ?_;refine gR ?_;exact aD.own1 rfl rfl rfl
theorem WW(a:Option Addr)(cap:Nat):Con prog 277 [.v (.slice a 0 cap)] [] (.ms 901 1 0 0) [pP 901 (.row 1 [])]:=by
 refine gF func277 (fun k z h=>by cases h) ?_;refine gs (BN (.tmp rfl) (by kernel_rfl) rfl) ?_;refine gC (fun y=>?_) (fun y=>?_) (st1:=(2,0)) (st2:=(77777,0))
 ·refine gW ((Wk.virt 901 1 rfl).trans<|Wk.o (sl:=[]) (hp:=[pP 901 (.row 1 [])])) ?_;refine gR ?_;exact(aD.keep (bB rfl)).sub (Sub.nM _ _ _)
 refine gW (Wk.of (sl:=[pP 0 (.lst 1 [])]) (hp:=[]) (.cons rfl (Sub.nil _ _ _) .nil) .nil) ?_;refine gs (j6 T46 rfl T3 rfl rfl rfl) ?_;refine gs (cF (.tmp rfl) rfl rfl (.tmp rfl) T46 rfl T3 rfl rfl (by simp) rfl rfl) ?_ (77777,0);refine gW (Wk.o (sl:=[pP 2 (.ms 7 1 0 0)]) (hp:=[pP 7 (.row 1 [])])) ?_;refine gR ?_;exact aD.own1 rfl rfl rfl
theorem acv(e:AV)(es:List AV)(hc:∀x∈e::es,x.cells.length=4)(hl:(e::es).length<=1000):Con prog 283 [.lst 4 (e::es)] [] (.ms 900 4 0 (e::es).length) [pP 900 (.row 4 (e::es))]:=by
 refine gF func283 (fun k z h=>by cases h) ?_;refine gs (CJ (.tmp rfl) (by kernel_rfl) rfl) ?_;refine gf ?_;refine gs (j6 T45 rfl T55 rfl rfl rfl) ?_;refine gs (cF (.tmp rfl) rfl rfl (.tmp rfl) T45 rfl T55 rfl rfl (by simp only[];omega) rfl rfl) ?_ (77777,0);refine gW (Wk.of (sl:=[pP 2 (.ms 7 4 0 (e::es).length)]) (hp:=[pP 7 (.row 4 (e::es))]) (.cons rfl (.of (are (AV.ms 7 4 0) (ams _))) .nil) (.k .nil)) ?_;refine gR ?_;exact aD.own1 rfl rfl rfl
theorem agk(a:Option Addr)(cap:Nat):Con prog 283 [.v (.slice a 0 cap)] [] (.ms 900 4 0 0) [pP 900 (.row 4 [])]:=by
 refine gF func283 (fun k z h=>by cases h) ?_;refine gs (BN (.tmp rfl) (by kernel_rfl) rfl) ?_;refine gC (fun y=>?_) (fun y=>?_) (st1:=(2,0)) (st2:=(77777,0))
 ·refine gW ((Wk.virt 900 4 rfl).trans<|Wk.o (sl:=[]) (hp:=[pP 900 (.row 4 [])])) ?_;refine gR ?_;exact(aD.keep (bB rfl)).sub (Sub.nM _ _ _)
 refine gW (Wk.of (sl:=[pP 0 (.lst 4 [])]) (hp:=[]) (.cons rfl (Sub.nil _ _ _) .nil) .nil) ?_;refine gs (j6 T45 rfl T55 rfl rfl rfl) ?_;refine gs (cF (.tmp rfl) rfl rfl (.tmp rfl) T45 rfl T55 rfl rfl (by simp) rfl rfl) ?_ (77777,0);refine gW (Wk.o (sl:=[pP 2 (.ms 7 4 0 0)]) (hp:=[pP 7 (.row 4 [])])) ?_;refine gR ?_;exact aD.own1 rfl rfl rfl
theorem K9(es:List AV)(hc:∀x∈es,x.cells.length=1)(hl:es.length<=1000):Con prog 277 [.lst 1 es] [] (.ms 901 1 0 es.length) [pP 901 (.row 1 es)]:=by
 cases es with
 |nil=>exact LH WW
 |cons e es=>exact acj e es hc hl
theorem Xo(es:List AV)(hc:∀x∈es,x.cells.length=4)(hl:es.length<=1000):Con prog 283 [.lst 4 es] [] (.ms 900 4 0 es.length) [pP 900 (.row 4 es)]:=by
 cases es with
 |nil=>exact LH agk
 |cons e es=>exact acv e es hc hl
theorem ael(es:List AV)(hc:∀x∈es,x.cells.length=1)(hl:es.length<=1000):FP 277 [.lst 1 es] (.lst 1 es):=by
 have h:=Con.freeze oz (K9 es hc hl)
 rwa [aq1,ap5]at h
theorem OJ(ms:List Int):∀x∈ms.map i64,x.cells.length=1:=fun x hx=>by obtain⟨m,_,rfl⟩:=anx.1 hx;rfl
theorem XB(bs:List Pq):∀x∈bs.map Pq.av,x.cells.length=4:=fun x hx=>by obtain⟨m,_,rfl⟩:=anx.1 hx;rfl
theorem yy{n e:Nat}{x:List Rat}(h:Nm n e x)(he:e<=100000000000):FP 278 [nA x] (nA x):=by
 have bV:=h.nl.len5 h.five;have jS:∀q∈x,Qs q:=fun q hq=>h.cb.qs oz hq
 refine ai func278 ?_;refine gl ?_;refine gW (Wk.virt 901 3 rfl) ?_;refine aS [6,7] [] (fun(j:Nat)=>[pP 3 (.ms 901 3 0 j),pP 8 (i64 j)]) (fun j=>[pP 901 (.row 3 ((x.take j).map qA))]) (fun j=>j<=x.length) (fun j=>x.length-j) 0 (apx _) ?_ (h1:=(.cons rfl (Sub.nM _ _ _) (.k .nil)));rintro j hj K1 J1;refine gC (fun z=>?_) (fun z=>?_) (st2:=(7,0))
 ·have fL:=a7 z;obtain⟨q,hq⟩:=ay fL;have jf:=sH (rt q) (rt 0) (jS q (apo hq)).ok Qs.zero.ok;rw[zD,bN]at jf;refine gi (aA hq) ?_;refine gc (Con.sA (.cons (.refl _) (.cons mV .nil)) jf) ?_;refine gs (cF (.tmp rfl) rfl (by rw[apr,ap7];omega) (.tmp rfl) T53 rfl T106 rfl rfl (by simp only[ap4,ap9];omega) rfl rfl) ?_ (6,0);refine gW (Wk.of (sl:=[pP 6 (nA x),pP 7 (i64 x.length),pP 8 (i64 j),pP 3 (.ms 17 3 0 (j+1))]) (hp:=[pP 17 (.row 3 ((x.take (j+1)).map qA))]) a6 (.cons rfl (.of (by rw[dJ hq,ap8];rfl)) .nil)) ?_ (6,0);refine gW (Wk.rk (k:=17) (d:=901) rfl rfl) ?_;refine ga aN ?_;exact aM J1 (j+1) fL
 have fL:=bj hj z;subst fL;refine gW ((Wk.freeze (k:=901) rfl).trans<|Wk.of (sl:=[pP 3 (nA x)]) (hp:=[]) (.cons rfl (.of (by rw[b8 (by simp)];simp[nA])) .nil) .nil) ?_;refine ah ?_;rfl
theorem U9{a:Aq}{n e:Nat}(h5:n<=5)(ht:∀x∈a.ts,Nm n e x)(hb:∀p∈a.bs,Pq.ok n e p)(he:e<=100000000000)(l1:a.ts.length<=100)(l2:a.bs.length<=100)(l3:a.ms.length<=100):FP 152 [a.av] a.av:=by
 refine ai func152 ?_;refine gc (ael _ (OJ _) (by rw[apr];omega)) ?_;refine gl ?_;refine gW (Wk.virt 900 1 rfl) ?_;refine aS [1,2,3,14,15] [1,2] (fun(i:Nat)=>[pP 16 (i64 i)]) (fun i=>[pP 3 (.box [.ms 900 1 0 i,nS,.lst 1 (a.ms.map i64)]),pP 900 (.row 1 ((a.ts.take i).map nA))]) (fun i=>i<=a.ts.length) (fun i=>a.ts.length-i) 0 (apx _) ?_ (h2:=(.cons rfl (BlkSub.bL (.cons (.nM _ _ _) (.cons (.refl _) (.cons (.refl _) .nil))) rfl) (.k .nil)));rintro i hi K1 J1;refine gC (fun z=>?_) (fun z=>?_) (st2:=(7,0))
 ·have ae:=a7 z;obtain ⟨d,hd⟩:=ay ae;refine gi (aA hd) ?_;refine gc (yy (ht d (apo hd)) he) ?_;refine gs (cF (.tmp rfl) rfl (by rw [apr,ap7]; omega) (.tmp rfl) T42 rfl T53 rfl rfl (by simp only [ap4,ap9]; omega) rfl rfl) ?_;refine gD ?_ (6,0);refine gW (Wk.of (sl:=[pP 1 (.ptr 1 0),pP 2 (.ptr 2 0),pP 3 (.ptr 3 0),pP 14 (.lst 1 (a.ts.map nA)),pP 15 (i64 a.ts.length),pP 16 (i64 i)]) (hp:=[pP 1 (.box a.cs),pP 2 (.box [nS,nS,nS]),pP 3 (.box [.ms 26 1 0 (i + 1),nS,.lst 1 (a.ms.map i64)]),pP 26 (.row 1 ((a.ts.take (i + 1)).map nA))]) a6 (.k (.k (.k (.cons rfl (.of (by rw [dJ hd,ap8]; rfl)) .nil))))) ?_ (6,0)
  refine gW (Wk.rk (k:=26) (d:=900) rfl rfl) ?_;refine ga aN ?_;exact aM J1 (i+1) ae
 have ae:=bj hi z;subst ae;refine gW ((Wk.freeze (k:=900) rfl).trans<|Wk.of (sl:=[pP 1 (.ptr 1 0),pP 2 (.ptr 2 0),pP 3 (.ptr 3 0)]) (hp:=[pP 1 (.box a.cs),pP 2 (.box [nS,nS,nS]),pP 3 (.box [.lst 1 (a.ts.map nA),nS,.lst 1 (a.ms.map i64)])]) a6 (.k (.k (.cons rfl (BlkSub.bL (.cons (.of (by rw[b8 (by simp)];simp)) (.cons (.refl _) (.cons (.refl _) .nil))) rfl) .nil)))) ?_;refine gl ?_;refine gW (Wk.virt 902 4 rfl) ?_;refine aS [1,2,3,31,32] [1,2] (fun(i:Nat)=>[pP 33 (i64 i)]) (fun i=>[pP 3 (.box [.lst 1 (a.ts.map nA),.ms 902 4 0 i,.lst 1 (a.ms.map i64)]),pP 902 (.row 4 ((a.bs.take i).map Pq.av))]) (fun i=>i<=a.bs.length) (fun i=>a.bs.length-i) 0 (apx _) ?_ (h2:=(.cons rfl (BlkSub.bL (.cons (.refl _) (.cons (.nM _ _ _) (.cons (.refl _) .nil))) rfl) (.k .nil)));rintro i hi K2 J2;refine gC (fun z=>?_) (fun z=>?_) (st2:=(12,0))
 ·have ae:=a7 z;obtain ⟨p,hp⟩:=ay ae;have ok:=hb p (apo hp);refine gi (aA hp) ?_;refine gc (yy ok.c he) ?_;refine gc (yy ok.s he) ?_;refine gc (yy ok.x he) ?_;refine gc (yy ok.y he) ?_;refine gs (cF (.tmp rfl) rfl (by rw [apr,ap7]; omega) (.tmp rfl) T45 rfl T55 rfl rfl (by simp only [ap4,ap9]; omega) rfl rfl) ?_;refine gD ?_ (11,0);refine gW (Wk.of (sl:=[pP 1 (.ptr 1 0),pP 2 (.ptr 2 0),pP 3 (.ptr 3 0),pP 31 (.lst 4 (a.bs.map Pq.av)),pP 32 (i64 a.bs.length),pP 33 (i64 i)]) (hp:=[pP 1 (.box a.cs),pP 2 (.box [nS,nS,nS]),pP 3 (.box [.lst 1 (a.ts.map nA),.ms 53 4 0 (i + 1),.lst 1 (a.ms.map i64)]),pP 53 (.row 4 ((a.bs.take (i + 1)).map Pq.av))]) a6 (.k (.k (.k (.cons rfl (.of (by rw [dJ hp,ap8]; rfl)) .nil))))) ?_ (11,0)
  refine gW (Wk.rk (k:=53) (d:=902) rfl rfl) ?_;refine ga aN ?_;exact aM J2 (i+1) ae
 have ae:=bj hi z;subst ae;refine gW ((Wk.freeze (k:=902) rfl).trans<|Wk.of (sl:=[pP 2 (.ptr 2 0),pP 3 (.ptr 3 0)]) (hp:=[pP 2 (.box [nS,nS,nS]),pP 3 (.box a.cs)]) a6 (.k (.cons rfl (BlkSub.bL (.cons (.refl _) (.cons (.of (by rw[b8 (by simp)];simp)) (.cons (.refl _) .nil))) rfl) .nil))) ?_;refine ah ?_;rfl
theorem XI{a:Aq}{g:Gr}{s:Sv}(hb:∀b∈g.bo,0<=b/\b<a.bs.length)(hl:s.ps.length=g.bo.length)(l1:a.bs.length<=100)(l2:a.ms.length<=100)(l3:g.bo.length<=100):FP 155 [a.av,g.av,s.av] (a.nxt g s).av:=by
 refine ai func155 ?_;refine gt (aK (Xo _ (XB _) (by rw[apr];omega)) (du rfl) aL rfl rfl) ?_;refine gt (aK (K9 _ (OJ _) (by rw[apr];omega)) (du rfl) aL rfl rfl) ?_;refine gs (cF (.tmp rfl) rfl rfl (.tmp rfl) T46 rfl T3 rfl rfl (by simp only[apr,ap4,ap9];omega) rfl rfl) ?_;refine gD ?_ (2,0);refine gW ((Wk.freeze (k:=21) rfl).trans<|Wk.of (sl:=[pP 3 (.ptr 3 0),pP 4 (.ptr 4 0),pP 5 (.ptr 5 0),pP 6 (.ptr 6 0),pP 7 (.ptr 7 0)]) (hp:=[pP 3 (.box a.cs),pP 4 (.box g.av.cells),pP 5 (.box s.av.cells),pP 6 (.box [nS,nS,nS]),pP 7 (.box [.lst 1 (s.ts.map nA),.ms 900 4 0 a.bs.length,.lst 1 ((a.ms++[s.mode]).map i64)]),pP 900 (.row 4 ((ba a.bs (g.bo.take 0) (s.ps.take 0)).map Pq.av))]) a6 (.k (.k (.k (.k (.cons rfl (BlkSub.bL (.cons (.refl _) (.cons (.of (are (AV.ms 900 4 0) (apr _))) (.cons (.of (by rw[b8 (by simp)];simp)) .nil))) rfl) (.k .nil))))))) ?_
 refine gl ?_;refine aS [3,4,5,6,7,24,25] [3,4,5,6,7] (fun(i:Nat)=>[pP 26 (i64 i)]) (fun i=>[pP 900 (.row 4 ((ba a.bs (g.bo.take i) (s.ps.take i)).map Pq.av))]) (fun i=>i<=g.bo.length) (fun i=>g.bo.length-i) 0 (apx _) ?_;rintro i hi K1 J1;refine gC (fun z=>?_) (fun z=>?_) (st2:=(7,0))
 ·have ae:=a7 z;obtain⟨b,Jj⟩:=ay ae;obtain⟨p,hp⟩:=ay (l:=s.ps) (i:=i) oz;obtain⟨mr,cE⟩:=hb b (apo Jj);have qz:=Cj a.bs (g.bo.take i) (s.ps.take i);obtain⟨o,ho⟩:=ay (l:=ba a.bs (g.bo.take i) (s.ps.take i)) (i:=b.toNat) oz;refine gi (aA Jj) ?_;refine gi (aA hp) ?_;refine gs (qW (.tmp rfl) (.tmp rfl) T45 rfl T55 rfl oz oz rfl) ?_;refine gs (fg (.tmp rfl) rfl (by rw[ams,apv,ho];rfl) rfl (.tmp rfl) rfl rfl T55 rfl rfl) ?_;refine gD ?_;refine ga aN ?_;exact aM J1 (i+1) ae (hw:=Wk.of a6 (.cons rfl (.of (by rw[ajo Jj hp,aq0,ams];rfl)) (.k (.k (.k (.k (.k .nil)))))))
 have ae:=bj hi z;subst ae;refine gW ((Wk.freeze (k:=900) rfl).trans<|Wk.of (sl:=[pP 6 (.ptr 6 0),pP 7 (.ptr 7 0)]) (hp:=[pP 6 (.box [nS,nS,nS]),pP 7 (.box (a.nxt g s).cs)]) a6 (.k (.cons rfl (BlkSub.bL (.cons (.refl _) (.cons (.of (by rw[b8 (by rw[apr,Cj])];rw[ap5,aqa oz];rfl)) (.cons (.refl _) .nil))) rfl) .nil))) ?_;refine ah ?_;rfl
abbrev iM(l:Li)(xs:List Tn)(G:List Gr)(fo:FuncId)(caps:List AV)(sg:Bool)(o:AV):List AV:=l.av.cells++[.lst 4 (xs.map Tn.av),.lst 4 (G.map Gr.av),.cl fo [] caps,bl sg,o]
abbrev iu(l:Li)(xs:List Tn)(G:List Gr)(fo:FuncId)(caps:List AV)(sg:Bool)(k:Nat)(es:List AV):Hp :=
  [pP 1000 (.box (iM l xs G fo caps sg (.ms k 3 0 es.length))),(k,some (.row 3 es))]
theorem A4{k k0:Nat}{x y:Option Blk}{z:Blk}(h0:1000<=k0)(h:lk [(1000,x),(k0,y)] k=some z):1000<=k:=by
 rw[a5]at h;split at h
 ·omega
 ·rw[a5]at h;split at h
  ·omega
  ·cases h
theorem af8{l:Li}{xs:List Tn}{G:List Gr}{fo:FuncId}{caps:List AV}{sg:Bool}{es:List AV}{g:Gr}(hd:g.kind=0->0<=g.driver/\g.driver<xs.length)(hl:xs.length<=100) :
  Con prog 154 [.ptr 1000 0,g.av] (iu l xs G fo caps sg 1001 es) (cw g xs).av (iu l xs G fo caps sg 1001 es):=by
 refine gF func154 (fun k z h=>A4 oz h) ?_;refine gC (fun y=>?_) (fun y=>?_)
 ·have hk : g.kind ≠ 0 := by simpa [aa] using y
  refine gR ?_;exact(aD.keep (q6 rfl rfl)).sub (by unfold cw;rw[aq6 hk];exact Sub.agg (.cons (.refl _) (.cons (Sub.nil _ _ _) (.cons (Sub.nil _ _ _) (.cons (.refl _) .nil)))) rfl)
 have hk:g.kind=0:=by simpa[aa]using y
 obtain⟨h0,h1⟩:=hd hk;obtain⟨x,hx⟩:=ay (l:=xs) (i:=g.driver.toNat) oz;refine gi (ko (n:=g.driver.toNat) oz hx) ?_;refine gD ?_;refine gR ?_;exact(aD.keep (q6 rfl rfl)).sub (by unfold cw;rw[aq7 hk,ax hx];exact .refl _)
theorem WO:oo (.agg [nS,nS,nS,nS]) bg.av:=by
 refine⟨rfl,?_⟩;intro j x y hx hy
 match j,hx,hy with
 |0,hx,hy=>cases hx;cases hy;exact⟨rfl,.nil _ _ _⟩
 |1,hx,hy=>cases hx;cases hy;exact⟨rfl,.nil _ _ _⟩
 |2,hx,hy=>cases hx;cases hy;exact⟨rfl,.nil _ _ _⟩
 |3,hx,hy=>cases hx;cases hy;exact⟨rfl,.nil _ _ _⟩
theorem afg(n:Nat):BlkSub (.row 4 (ana n (.agg [nS,nS,nS,nS]))) (.row 4 ((ana n bg).map Pq.av)):=by
 refine .row (by simp) ?_;intro i e e' he he';rw[aqu,aql]at he';rw[aql]at he;split at he
 ·rename_i h;rw[aq7 h]at he';cases he;cases he'
  exact WO
 ·cases he
theorem Xk:lh.av=.agg [nA (sh 0 (((1:Int):Rat):Rat)),nA [],nA [],nA []]:=by
 have h:sh 0 (((1:Int):Rat):Rat)=[1]:=by decide +kernel
 rw[h];rfl
theorem Tl{l:Li}{xs:List Tn}{G:List Gr}{fo:FuncId}{caps:List AV}{sg:Bool}{es:List AV}(h0:0<l.bo.length)(hl:l.bo.length<=100) :
  Con prog 65 [.ptr 1000 0] (iu l xs G fo caps sg 1001 es) (d8 l).av (iu l xs G fo caps sg 1001 es):=by
 refine gF func65 (fun k z h=>A4 oz h) ?_;refine gl ?_;refine gs (kJ (.tmp rfl) T45 rfl T55 rfl rfl oz (by dsimp only;omega) rfl) ?_ (2,0);refine gW (Wk.of (sl:=[pP 2 (.ptr 2 0),pP 3 (.ptr 3 0)]) (hp:=[pP 2 (.box [nS,nS,nS]),pP 3 (.box [nS,.ms 10 4 0 l.bo.length,nS]),pP 10 (.row 4 ((ana l.bo.length bg).map Pq.av)),pP 1000 (.box (iM l xs G fo caps sg (.ms 1001 3 0 es.length))),pP 1001 (.row 3 es)]) a6 (.k (.k (.cons rfl (afg _) (.k (.k .nil)))))) ?_;refine gc (oQ 1 oz) ?_;refine gc (qI (q:=((1:Int):Rat)) (Qb.one.qs oz)) ?_;refine gs (cM (n:=0) (.tmp rfl) (.const _) T45 rfl T55 rfl oz oz rfl) ?_ (2,7);refine gs (Mr (e:=bg.av) (e':=.agg [nA (sh 0 (((1:Int):Rat):Rat)),nA [],nA [],nA []]) (.tmp rfl) rfl (by rw[apv,aql,aq7 h0];rfl) (.tmp rfl) rfl rfl T53 rfl rfl rfl) ?_;refine gD ?_ (3,0);refine gW ((Wk.freeze (k:=10) rfl).trans<|Wk.of (sl:=[pP 2 (.ptr 2 0),pP 3 (.ptr 3 0)]) (hp:=[pP 2 (.box [nS,nS,nS]),pP 3 (.box [nS,.lst 4 ((d8 l).bs.map Pq.av),nS]),pP 1000 (.box (iM l xs G fo caps sg (.ms 1001 3 0 es.length))),pP 1001 (.row 3 es)]) a6 (.k (.cons rfl (BlkSub.bL (.cons (.refl _) (.cons (.of (by rw[b8 (by simp)];unfold d8;rw[aq0,Xk])) (.cons (.refl _) .nil))) rfl) (.k (.k .nil))))) ?_
 refine gR ?_;exact(aD.keep (q6 rfl rfl)).sub (Sub.agg (.cons (Sub.nil _ _ _) (.cons (.refl _) (.cons (Sub.nil _ _ _) .nil))) rfl)
theorem agn(k m:Int):FP 151 [i64 k,i64 m] (bl true):=by
 refine ai func151 ?_;refine ah ?_;rfl
theorem aci{modes:List Int}{k:Nat}(hk:k<modes.length)(hl:modes.length<=100)(m:Int):FP 162 [i64 k,i64 m,.iptr [.lst 1 (modes.map i64)]] (bl (decide (m=modes.getD k 0))):=by
 obtain⟨x,hx⟩:=ay hk;refine ai func162 ?_;refine gi (aA hx) ?_;refine gR ?_;exact fv (.of (by rw[ax hx,ux];rfl))
def xz(l:Li)(xs:List Tn):Nat:=if splitE l≠0 then splitE l else if xs.length≠l.dv.length then 10 else fV (xs.map Tn.err)
def da(l:Li)(xs:List Tn):Nat:=if aG l≠0 then aG l else xz l xs
def xW(e:Nat)(l:Li)(xs:List Tn):Hp:=if e=0 then[pP 900 (.box (iM l xs (splitG l) 151 [] false (nS)))]else[]
theorem DG{e:Nat}(h:e≠0){l:Li}{xs:List Tn}:xW e l xs=[]:=aq6 h
theorem JD{l:Li}{xs:List Tn}{e:Nat}(he:(if aG l=0 then splitE l else aG l)=e)(h:e≠0):da l xs=e:=by
 unfold da xz
 by_cases h1:aG l=0
 ·rw[aq7 h1]at he;rw[aq6 oz,aq7 oz,he]
 ·rw[aq6 h1]at he;rw[aq7 h1,he]
theorem y9{l:Li}{xs:List Tn}(h:aG l=0)(hs:splitE l=0):da l xs=if xs.length≠l.dv.length then 10 else fV (xs.map Tn.err):=by
 unfold da xz;rw[aq6 oz,aq6 oz]
theorem GK(l:Li)(hl:l.ok)(xs:List Tn)(hx:∀x∈xs,x.t.ok)(hn:xs.length<=100) :
  Con prog 63 [l.av,.lst 4 (xs.map Tn.av)] [] (.tup [vF (da l xs),bG (da l xs)]) (xW (da l xs) l xs):=by
 have rJ:=hl.ld;refine gF func63 (fun k z h=>by cases h) ?_;refine gc (GV l hl) ?_;refine gC (fun u=>?_) (fun u=>?_)
 ·have h1:=ef u;refine gR ?_;rw[JD rfl h1,pK h1,DG h1];exact oJ rfl
 have h1:=dS u;obtain⟨au,jT⟩:=P3 h1;rw[show(if aG l=0 then splitG l else[])=splitG l from aq7 au];refine gl ?_;refine gl ?_;refine gC (fun u=>?_) (fun u=>?_)
 ·have h2:=wN u;have he:da l xs = 10:=by rw [y9 au jT,aq7 h2]
  refine gR ?_;rw[he,pK (by decide),DG (by decide)];exact oJ rfl
 have h2:=yn u;have uZ:da l xs=fV (xs.map Tn.err):=by rw[y9 au jT,aq6 oz]
 refine gl ?_;refine aS [1,2,6,26,27] [2] (fun(i:Nat)=>[pP 28 (i64 i)]) (fun _=>[]) (fun i=>i<=xs.length/\∀y∈xs.take i,y.err=0) (fun i=>xs.length-i) 0 ⟨apx _,fun y hy=>by simp at hy⟩ ?_;rintro i ⟨hi,hz⟩ K1 J1;refine gC (fun u=>?_) (fun u=>?_) (st2:=(13,0))
 ·have ae:=a7 u;obtain⟨x,rQ⟩:=ay ae;refine gi (aA rQ) ?_;refine gc (zI x (hx x (apo rQ))) ?_;refine gC (fun u=>?_) (fun u=>?_)
  ·have h3:=ef u;have he:da l xs = x.err:=by rw [uZ]; exact BM rQ hz h3
   refine gR ?_;rw[he,pK h3,DG h3];exact oJ rfl
  have h3:=dS u;refine ga aN ?_;exact aM J1 (i+1) ⟨ae,fun z jy=>by rw[dJ rQ]at jy;rcases ap2.1 jy with h9 |h9;exact hz z h9;(rw[am8.1 h9];exact h3)⟩
 have ae:=bj hi u;have he:da l xs=0:=by rw[uZ];exact rf (fun y hy=>hz y (by rw[ae,ap5];exact hy))
 refine gW (Wk.o (sl:=[pP 1 (.lst 4 (xs.map Tn.av)),pP 2 (.ptr 2 0),pP 6 (.lst 4 ((splitG l).map Gr.av))]) (hp:=[pP 2 (.box l.av.cells)])) ?_ (77777,0);refine gW (Wk.of (sl:=[pP 4 (.ptr 42 0),pP 5 (.v .nilIface)]) (hp:=[pP 42 (.box (iM l xs (splitG l) 151 [] false (nS)))]) a6 (.cons rfl (BlkSub.bL (.cons (.refl _) (.cons (.refl _) (.cons (.refl _) (.cons (.refl _) (.cons (.refl _) (.cons (.refl _) (.cons ((Sub.fn0 _).trans (yE rfl)) (.cons (.refl _) (.cons (.refl _) .nil))))))))) rfl) .nil)) ?_ (77777,0);refine gW (Wk.rk (k:=42) (d:=900) rfl rfl) ?_;refine gR ?_;rw[he];exact aD.keep (bB rfl)
section
variable{P:arj}{N:Nat}{R:Array Oper}{s:AS}{pos:String}{after:Array Edge}
theorem Hx{d f k k2:Nat}{bx bx2:Blk}{args:Array arg}{ts:Array ari}{xs:List AV}{r:AV}{t:ari}
  (fe:Con P f xs [(k,some bx),(k2,some bx2)] r [(k,some bx),(k2,some bx2)]) (ha:EvL s args.toList xs) (b9:amq k2 k=false) (hk:s.blk k=some bx) (dj:s.blk k2=some bx2)
  (cT:lY s [(k,some bx),(k2,some bx2)] [(k,some bx),(k2,some bx2)] r=true) (hN:aly d N=true) :
  Step P N R s ⟨some d,.call ⟨.value (.func f),args,ts⟩,t,pos,after,none⟩ ⟨some r,[],gE args.toList,[k,k2]⟩:=by
 have alq:k2≠k:=fun e=>by rw[e,alv]at b9;cases b9
 refine Step.weaken (aK (d:=d) fe ha (fun k' z h=>by
  rcases rY h with⟨rfl,h9⟩ |⟨_,rfl,h9⟩
  ·cases h9;exact hk
  ·cases h9;exact dj) cT hN) (fun s' h=>h) (fun s' h k' hk'=>?_) (fun s' h=>?_)
 ·left;simp only[ap8,eO,aq2,map_nil,ap2,aqf,aqg,or_false]at hk' ⊢;rcases hk' with h9 |h9 <;> exact h9
 ·intro C m a w hr;refine ⟨m,hr.weak (fun t x hx=>⟨x,hx,.refl _⟩) (fun k' x hx=>⟨x,?_,.refl _⟩)⟩;have hb:lk s'.hp k = some bx:=(h.2 k (by simp)).trans hk;have bF:lk s'.hp k2 = some bx2:=(h.2 k2 (by simp)).trans dj;show lk ([(k,some bx),(k2,some bx2)] ++ eO [(k,some bx),(k2,some bx2)] ++ s'.hp) k' = some x;have hx':lk s'.hp k' = some x:=hx;simp only [eO,aq2,map_nil,ans,nil_append,a5]
  by_cases e:k'=k
  ·rw[aq7 e];rw[e,hb]at hx';exact hx'
  ·rw[aq6 e]
   by_cases e2:k'=k2
   ·rw[aq7 e2];rw[e2,bF]at hx';exact hx'
   ·rw[aq6 e2,aq6 e,aq6 e2];exact hx'
end
def ve(k:Nat):Nat:=bif amq k 1001 then 901 else bif amq k 901 then 1001 else k
theorem ahu(k:Nat):ve (ve k)=k:=by
 by_cases h1:k=1001
 ·subst h1;rfl
 ·by_cases h2:k=901
  ·subst h2;rfl
  ·have nb:∀{a b:Nat},a≠b->amq a b=false:=fun h=>by
    cases h9:amq _ _ with
    |false=>rfl
    |true=>exact ard (apy h9) h
   have e:ve k=k:=by simp only[ve,nb h1,nb h2,cond_false]
   rw[e,e]
theorem acl{l:Li}{xs:List Tn}{G:List Gr}{fo:FuncId}{caps:List AV}{sg:Bool}{es es':List AV}{a:Aq}{e:Nat}
  (h:Con prog 64 [.ptr 1000 0,a.av] (iu l xs G fo caps sg 1001 es) (bG e) (iu l xs G fo caps sg 900 es')) :
  Con prog 64 [.ptr 1000 0,a.av] (iu l xs G fo caps sg 901 es) (bG e) (iu l xs G fo caps sg 900 es') :=
 Con.pm ahu h
theorem Xt{l:Li}{xs:List Tn}{G:List Gr}{fo:FuncId}{caps:List AV}{sg:Bool}{o:List Aq}{a:Aq}(hk:a.ms.length=G.length)(hG:G.length<=100)(ho:o.length<=1000)
  (f7:FP 152 [a.av] a.av) :
  Con prog 64 [.ptr 1000 0,a.av] (iu l xs G fo caps sg 1001 (o.map Aq.av)) (bG 0) (iu l xs G fo caps sg 900 ((o++[a]).map Aq.av)):=by
 refine gF func64 (fun k z h=>A4 oz h) ?_;refine gl ?_;refine gl ?_;refine gC (fun y=>?_) (fun y=>?_) (st2:=(77777,0))
 ·refine gc f7 ?_;refine gs (cF (.tmp rfl) rfl (by rw [apr]) (.tmp rfl) T33 rfl T48 rfl rfl (by simp only [apr,ap4,ap9]; omega) rfl rfl) ?_;refine gD ?_ (4,0);refine gW (Wk.of (sl:=[pP 4 (.v .nilIface)]) (hp:=[pP 1000 (.box (iM l xs G fo caps sg (.ms 30 3 0 ((o ++ [a]).map Aq.av).length))),pP 30 (.row 3 ((o ++ [a]).map Aq.av))]) a6 (.cons rfl (BlkSub.bL (.cons (.refl _) (.cons (.refl _) (.cons (.refl _) (.cons (.refl _) (.cons (.refl _) (.cons (.refl _) (.cons (.refl _) (.cons (.refl _) (.cons (.of (by simp)) .nil))))))))) rfl) (.cons rfl (.of (by rw [ap8]; rfl)) .nil))) ?_ (4,0)
  refine gW (Wk.rk (k:=30) (d:=900) rfl rfl) ?_;refine gR ?_;exact aD.keep (q6 rfl rfl)
 exact ard y (by rw[hk];simp[aa])
theorem sD(F:Int->Bool)(sg:Bool)(f:Sv->List Aq×Nat)(s:Sv)(r:List Sv) :
  gw F sg f (s::r)=if F s.mode=false then gw F sg f r else if(f s).2≠0 then f s else if sg=true then f s else((f s).1++(gw F sg f r).1,(gw F sg f r).2):=rfl
theorem x6{α:Type}{l:List α}{i:Nat}{x:α}(h:l[i]?=some x):l.drop i=x::l.drop (i+1):=by
 obtain⟨hi,e⟩:=anz.1 h;rw[ani hi,e]
def vS(F:Int->Bool)(sg:Bool)(f:Sv->List Aq×Nat)(S:List Sv)(i:Nat)(c:List Aq):Prop :=
  i<=S.length/\gw F sg f S=(c++(gw F sg f (S.drop i)).1,(gw F sg f (S.drop i)).2)
theorem ab8(F:Int->Bool)(sg:Bool)(f:Sv->List Aq×Nat)(S:List Sv):vS F sg f S 0 []:=⟨apx _,rfl⟩
section
variable{F:Int->Bool}{sg:Bool}{f:Sv->List Aq×Nat}{S:List Sv}{i:Nat}{c:List Aq}(h:vS F sg f S i c){s:Sv}(hs:S[i]?=some s)
include h hs
theorem YP(hF:F s.mode=false):vS F sg f S (i+1) c:=by
 have h2:=h.2;rw[x6 hs,sD,aq7 hF]at h2;exact⟨(anz.1 hs).1,h2⟩
theorem Xx(hF:F s.mode=true)(he:(f s).2≠0):gw F sg f S=(c++(f s).1,(f s).2):=by
 have h2:=h.2;rw[x6 hs,sD,aq6 (by rw[hF];simp),aq7 he]at h2;exact h2
theorem Uz(hF:F s.mode=true)(he:(f s).2=0)(h1:sg=true):gw F sg f S=(c++(f s).1,0):=by
 have h2:=h.2;rw[x6 hs,sD,aq6 (by rw[hF];simp),aq6 oz,aq7 h1,he]at h2;exact h2
theorem act(hF:F s.mode=true)(he:(f s).2=0)(h1:sg=false):vS F sg f S (i+1) (c++(f s).1):=by
 have h2:=h.2;rw[x6 hs,sD,aq6 (by rw[hF];simp),aq6 oz,aq6 (by rw[h1];simp)]at h2;exact⟨(anz.1 hs).1,by rw[h2,aqt]⟩
end
theorem abv{F:Int->Bool}{sg:Bool}{f:Sv->List Aq×Nat}{S:List Sv}{c:List Aq}(h:vS F sg f S S.length c):gw F sg f S=(c,0):=by
 have h2:=h.2;rw[anh]at h2;rw[h2];simp[gw]
theorem ahl{l:Li}{xs:List Tn}{G:List Gr}{fo:FuncId}{caps:List AV}{sg:Bool}{o:List Aq}{a:Aq}{g:Gr}(hg:G[a.ms.length]?=some g)(hG:G.length<=100)(hx:xs.length<=100)(hd:g.kind=0->0<=g.driver/\g.driver<xs.length)
  {S:List Sv} {E:Nat} (hS:FP 153 [l.av,i64 a.ms.length,(cw g xs).av,a.av] (.tup [.lst 3 (S.map Sv.av),bG E])) (hSl:S.length<=100)
  {F:Int->Bool} (hF:∀m,FP fo ([i64 a.ms.length,i64 m]++caps) (bl (F m)))
  (hb:∀s∈S,FP 155 [a.av,g.av,s.av] (a.nxt g s).av)
  {f:Sv->List Aq×Nat} {M B:Nat} (hM:∀s∈S,(f s).1.length<=M) (hB:o.length+S.length*M<=B) (ih:∀(o:List Aq),o.length+M<=B->∀s∈S,Con prog 64 [.ptr 1000 0,(a.nxt g s).av] (iu l xs G fo caps sg 1001 (o.map Aq.av)) (bG (f s).2) (iu l xs G fo caps sg 900 ((o++(f s).1).map Aq.av))) :
  Con prog 64 [.ptr 1000 0,a.av] (iu l xs G fo caps sg 1001 (o.map Aq.av)) (bG (if E≠0 then E else(gw F sg f S).2)) (iu l xs G fo caps sg 900 ((o++(if E≠0 then[]else(gw F sg f S).1)).map Aq.av)):=by
 have hkG:=(anz.1 hg).1;refine gF func64 (fun k z h=>A4 oz h) ?_;refine gl ?_;refine gl ?_;refine gC (fun y=>?_) (fun y=>?_) (st1:=(3,0));exact ard y (by simp[aa];omega);refine gi (aA hg) ?_;refine gt (Hx (af8 hd hx) (bO rfl rfl) rfl rfl rfl rfl rfl) ?_;refine gc hS ?_;refine gD ?_;refine gC (fun y=>?_) (fun y=>?_) (st1:=(8,0)) (st2:=(77777,0))
 ·have hE:=ef y;refine gW (Wk.o (sl:=[pP 4 (.v .nilIface),pP 8 (bG E)]) (hp:=[pP 1000 (.box (iM l xs G fo caps sg (.ms 1001 3 0 (o.map Aq.av).length))),pP 1001 (.row 3 (o.map Aq.av))])) ?_ (8,0);refine gW (Wk.rk (k:=1001) (d:=900) rfl rfl) ?_;refine gR ?_;rw[aq7 hE,aq7 hE,append_nil];exact aD.keep (q6 rfl rfl)
 have hE:=dS y;refine gW (Wk.of (sl:=[pP 0 (.ptr 1000 0),pP 3 (.ptr 3 0),pP 5 (i64 a.ms.length),pP 6 (.ptr 6 0),pP 7 (.lst 3 (S.map Sv.av))]) (hp:=[pP 3 (.box a.cs),pP 6 (.box g.av.cells),pP 1000 (.box (iM l xs G fo caps sg (.ms 1001 3 0 ((o++[]).map Aq.av).length))),pP 1001 (.row 3 ((o++[]).map Aq.av))]) a6 (.k (.k (.cons rfl (BlkSub.bL (.cons (.refl _) (.cons (.refl _) (.cons (.refl _) (.cons (.refl _) (.cons (.refl _) (.cons (.refl _) (.cons (.refl _) (.cons (.refl _) (.cons (.of (by simp)) .nil))))))))) rfl) (.cons rfl (.of (by rw[append_nil])) .nil))))) ?_ (77777,0)
 refine gW (Wk.rk (k:=1001) (d:=901) rfl rfl) ?_;refine gl ?_;refine kg [0,3,5,6,56,57] [3,6] (fun(i:Nat)(c:List Aq)=>[pP 58 (i64 i)]) (fun _ c=>[pP 1000 (.box (iM l xs G fo caps sg (.ms 901 3 0 ((o++c).map Aq.av).length))),pP 901 (.row 3 ((o++c).map Aq.av))]) (fun i c=>vS F sg f S i c/\c.length<=i*M) (fun i _=>S.length-i) 0 ([]) ⟨ab8 F sg f S,apx _⟩ ?_;rintro i c ⟨ox,f7⟩ K1 J1;refine gC (fun y=>?_) (fun y=>?_) (st2:=(19,0))
 ·have ae:=a7 y;obtain⟨s,hs⟩:=ay ae;have Jk:=apo hs;have DO:=hM s Jk;have Sd:(i+1)*M=i*M+M:=am5 i M;have alr:(i+1)*M<=S.length*M:=aqi M ae;refine gi (aA hs) ?_;refine gc (hF s.mode) ?_;refine gD ?_;refine gC (fun y=>?_) (fun y=>?_) (st2:=(77777,0))
  ·have AI : F s.mode = false := by simpa using y
   refine ga aN ?_;exact jI J1 (i+1) c ⟨YP ox hs AI,by omega⟩
  have AI:F s.mode=true:=by simpa using y
  refine gW (Wk.o (sl:=[pP 0 (.ptr 1000 0),pP 3 (.ptr 3 0),pP 5 (i64 a.ms.length),pP 6 (.ptr 6 0),pP 10 (.ptr 10 0),pP 56 (.lst 3 (S.map Sv.av)),pP 57 (i64 S.length),pP 58 (i64 i)]) (hp:=[pP 3 (.box a.cs),pP 6 (.box g.av.cells),pP 10 (.box s.av.cells),pP 1000 (.box (iM l xs G fo caps sg (.ms 901 3 0 ((o++c).map Aq.av).length))),pP 901 (.row 3 ((o++c).map Aq.av))])) ?_
  refine gc (hb s Jk) ?_;refine gt (aK (acl (ih (o++c) (by rw[aqk];omega) s Jk)) (bO rfl rfl) aL rfl rfl) ?_;refine gC (fun y=>?_) (fun y=>?_)
  ·have he:(f s).2≠0:=ef y;have hR:=Xx ox hs AI he;refine gR ?_;rw[aq6 oz,aq6 oz,hR,<- aqt];exact aD.keep (q6 rfl rfl)
  have he:(f s).2=0:=dS y;refine gC (fun y=>?_) (fun y=>?_) (st2:=(77777,0))
  ·have h1 : sg = true := by simpa using y
   have hR:=Uz ox hs AI he h1;refine gR ?_;rw[aq6 oz,aq6 oz,hR,<- aqt];exact aD.keep (q6 rfl rfl)
  have h1:sg=false:=by simpa using y
  refine gW (Wk.of (sl:=[pP 0 (.ptr 1000 0),pP 3 (.ptr 3 0),pP 5 (i64 a.ms.length),pP 6 (.ptr 6 0),pP 56 (.lst 3 (S.map Sv.av)),pP 57 (i64 S.length),pP 58 (i64 i)]) (hp:=[pP 3 (.box a.cs),pP 6 (.box g.av.cells),pP 1000 (.box (iM l xs G fo caps sg (.ms 900 3 0 ((o++(c++(f s).1)).map Aq.av).length))),pP 900 (.row 3 ((o++(c++(f s).1)).map Aq.av))]) a6 (.k (.k (.cons rfl (BlkSub.bL (.cons (.refl _) (.cons (.refl _) (.cons (.refl _) (.cons (.refl _) (.cons (.refl _) (.cons (.refl _) (.cons (.refl _) (.cons (.refl _) (.cons (.of (by rw[aqt])) .nil))))))))) rfl) (.cons rfl (.of (by rw[aqt])) .nil))))) ?_ (77777,0)
  refine gW (Wk.rk (k:=900) (d:=901) rfl rfl) ?_;refine ga aN ?_;exact jI J1 (i+1) (c++(f s).1) ⟨act ox hs AI he h1,by rw[aqk];omega⟩
 have ae:=bj ox.1 y;subst ae;have hR:=abv ox;refine gW (Wk.o (sl:=[]) (hp:=[pP 1000 (.box (iM l xs G fo caps sg (.ms 901 3 0 ((o++c).map Aq.av).length))),pP 901 (.row 3 ((o++c).map Aq.av))])) ?_ (19,0);refine gW (Wk.rk (k:=901) (d:=900) rfl rfl) ?_;refine gR ?_;rw[aq6 oz,aq6 oz,hR];exact aD.keep (q6 rfl rfl)
variable{P:arj}{N:Nat}{R:Array Oper}{s:AS}{pos:String}{after:Array Edge}
end Go.Lw
namespace Go.Lw
open Go.Proofs
theorem vM(i:Int)(n:Nat):FP 166 [i64 i,i64 n] (bl (bR i n)):=by
 refine ai func166 ?_;refine ah ?_;exact are bl (KN i n)
theorem adw(p q:Mk)(hp:p.ok)(hq:q.ok):FP 167 [p.av,q.av] (bl (decide (p.x.q=q.x.q/\p.y.q=q.y.q))):=by
 refine ai func167 ?_;refine gc (Np p.x q.x hp.x hq.x ((hp.qx.sub hq.qx).qs oz)) ?_;refine bT (fun _=>(Np p.y q.y hp.y hq.y ((hp.qy.sub hq.qy).qs oz))) ?_;refine ah ?_;exact are bl ae4
theorem TQ(b:Bd)(nc:b.ok):FP 165 [b.av] (i64 (if 8<b.pts.length then 4 else iA b.pts.length (fh b.pts):Nat)):=by
 have kW:=nc.ll;refine ai func165 ?_;refine gl ?_;refine gC (fun z=>?_) (fun z=>?_)
 ·have h0:8<b.pts.length:=my z;refine ah ?_;rw[aq7 h0];rfl
 have h0:b.pts.length<=8:=kD z;have e0:(if 8<b.pts.length then 4 else iA b.pts.length (fh b.pts):Nat)=iA b.pts.length (fh b.pts):=aq6 oz;refine aS [1] [1] (fun(p:Nat)=>[pP 3 (i64 p)]) (fun _=>[]) (fun p=>p<=b.pts.length/\∀j,j<p->fh b.pts j=0) (fun p=>b.pts.length-p) 0 ⟨apx _,fun j h=>by omega⟩ ?_;rintro p ⟨hp,pj⟩ K1 J1;refine gl ?_;refine gC (fun z=>?_) (fun z=>?_)
 ·have iL:=a7 z;obtain⟨m,hm⟩:=ay iL;have rN:b.pts.getD p default=m:=ax hm;have sY:=apo hm;have Ay:=rU Mk.name hm;have pq:=nc.pts m sY;refine gi (aA hm) ?_;refine gc (zj m.name (nc.names m sY)) ?_;refine gC (fun z=>?_) (fun z=>?_)
  ·have h4:=eI z;have e2:fh b.pts p = 5:=by unfold fh; rw [rN,aq7 h4]
   refine ah ?_;rw[e0,fX iL pj (by rw[e2];decide),e2];rfl
  have h4:=eH z;refine aS [1,3,4] [1,4] (fun(q:Nat)=>[pP 5 (i64 q)]) (fun _=>[]) (fun q=>q<=p/\(b.pts.take q).any (fun y=>fB y.name m.name)=false) (fun q=>p-q) 0 ⟨apx _,rfl⟩ ?_;rintro q ⟨hq,pu⟩ K2 J2;refine gC (fun z=>?_) (fun z=>?_)
  ·have dF:=a7 z;obtain⟨y,hy⟩:∃y,b.pts[q]?=some y:=ay oz;refine gi (aA hy) ?_;refine gD ?_;refine gC (fun z=>?_) (fun z=>?_)
   ·have h5:fB y.name m.name = true:=z;have e2:fh b.pts p = 6:=by unfold fh; rw [rN,aq6 (by rw [h4]; decide),aq7 (by rw [Ay]; exact p8 hy dF h5)]
    refine ah ?_;rw[e0,fX iL pj (by rw[e2];decide),e2];rfl
   have h5:fB y.name m.name=false:=z;refine ga aN ?_;exact aM J2 (q+1) ⟨dF,oT hy pu h5⟩
  have dF:=bj hq z;subst dF;have Az:¬km (b.pts.map Mk.name) q=true:=by rw[Ay,pu];decide
  refine gc (xB m.x pq.x) ?_;refine bT (fun _=>(xB m.y pq.y)) ?_;refine gC (fun z=>?_) (fun z=>?_)
  ·have h6:=uK z;have e2:fh b.pts q = 3:=by unfold fh; rw [rN,aq6 (by rw [h4]; decide),aq6 Az,aq6 (by rintro ⟨g1,g2⟩; rcases h6 with g | g; (rw [g1] at g; cases g); (rw [g2] at g; cases g))]
   refine ah ?_;rw[e0,fX iL pj (by rw[e2];decide),e2];rfl
  have h6:=ui z;have e2:fh b.pts q=0:=by unfold fh;rw[rN,aq6 (by rw[h4];decide),aq6 Az,aq7 h6]
  refine ga aN ?_;exact aM J1 (q+1) ⟨iL,fun j h9=>by rcases apz j q with g |g;exact pj j g;(have:j=q:=by omega);subst this;exact e2⟩
 have iL:=bj hp z;subst iL;refine ah ?_;rw[e0,pX pj];rfl
theorem Ut(l:Li)(hl:l.ok):FP 72 [l.av] (i64 (jw l)):=by
 have eY:=hl.lb;have e0:jw l=iA l.bo.length (fi l.bo):=rfl;refine ai func72 ?_;refine aS [1] [1] (fun(i:Nat)=>[pP 3 (i64 i)]) (fun _=>[]) (fun i=>i<=l.bo.length/\∀j,j<i->fi l.bo j=0) (fun i=>l.bo.length-i) 0 ⟨apx _,fun j h=>by omega⟩ ?_;rintro i ⟨hi,hj⟩ K1 J1;refine gl ?_;refine gC (fun z=>?_) (fun z=>?_)
 ·have ae:=a7 z;obtain⟨b,hb⟩:=ay ae;have eD:l.bo.getD i default=b:=ax hb;have nc:=hl.bo b (apo hb);have ky:=rU Bd.name hb;refine gi (aA hb) ?_;refine gc (zj b.name nc.name) ?_;refine gC (fun z=>?_) (fun z=>?_)
  ·have h1:=eI z;have e1:fi l.bo i = 5:=by unfold fi; rw [eD,aq7 h1]
   refine ah ?_;rw[e0,fX ae hj (by rw[e1];decide),e1];rfl
  have h1:=eH z;refine aS [1,3] [1] (fun(k:Nat)=>[pP 4 (i64 k)]) (fun _=>[]) (fun k=>k<=i/\(l.bo.take k).any (fun y=>fB y.name b.name)=false) (fun k=>i-k) 0 ⟨apx _,rfl⟩ ?_;rintro k ⟨hk,hd⟩ K2 J2;refine gC (fun z=>?_) (fun z=>?_)
  ·have bp:=a7 z;obtain⟨y,hy⟩:∃y,l.bo[k]?=some y:=ay oz;refine gi (aA hy) ?_;refine gi (aA hb) ?_;refine gD ?_;refine gC (fun z=>?_) (fun z=>?_)
   ·have h2:fB y.name b.name = true:=z;have e1:fi l.bo i = 6:=by unfold fi; rw [eD,aq6 (by rw [h1]; decide),aq7 (by rw [ky]; exact p8 hy bp h2)]
    refine ah ?_;rw[e0,fX ae hj (by rw[e1];decide),e1];rfl
   have h2:fB y.name b.name=false:=z;refine ga aN ?_;exact aM J2 (k+1) ⟨bp,oT hy hd h2⟩
  have bp:=bj hk z;subst bp;have dN:¬km (l.bo.map Bd.name) k=true:=by rw[ky,hd];decide
  have e1:fi l.bo k=if 8<b.pts.length then 4 else iA b.pts.length (fh b.pts):=by unfold fi;rw[eD,aq6 (by rw[h1];decide),aq6 dN]
  refine gi (aA hb) ?_;refine gc (TQ b nc) ?_;refine gC (fun z=>?_) (fun z=>?_)
  ·have h3:=oR z;refine ah ?_;rw[e0,fX ae hj (by rw[e1];exact h3),e1]
  have h3:=oh z;refine ga aN ?_;exact aM J1 (k+1) ⟨ae,fun j h9=>by rcases apz j k with g |g;exact hj j g;(have:j=k:=by omega);subst this;exact e1.trans h3⟩
 have ae:=bj hi z;subst ae;refine ah ?_;rw[e0,pX hj];rfl
theorem VJ(l:Li)(hl:l.ok)(i:Nat)(hi:i<l.jo.length)(h16:l.jo.length<=16):FP 73 [l.av,i64 i] (i64 (ji l i)):=by
 obtain⟨j,uY⟩:=ay hi;have eD:l.jo.getD i default=j:=ax uY;have ky:=rU Jt.name uY;refine ai func73 ?_;refine gi (aA uY) ?_;refine gc (zj j.name (hl.jnames j (apo uY))) ?_;refine gC (fun z=>?_) (fun z=>?_)
 ·have h0:=eI z;refine ah ?_;unfold ji;rw[eD,aq7 h0];rfl
 have h0:=eH z;refine aS [1,2,5] [2,5] (fun(k:Nat)=>[pP 6 (i64 k)]) (fun _=>[]) (fun k=>k<=i/\(l.jo.take k).any (fun y=>fB y.name j.name)=false) (fun k=>i-k) 0 ⟨apx _,rfl⟩ ?_;rintro k ⟨hk,hd⟩ K1 J1;refine gC (fun z=>?_) (fun z=>?_)
 ·have bp:=a7 z;obtain⟨y,hy⟩:∃y,l.jo[k]?=some y:=ay oz;refine gi (aA hy) ?_;refine gD ?_;refine gC (fun z=>?_) (fun z=>?_)
  ·have h2:fB y.name j.name=true:=z;refine ah ?_;unfold ji;rw[eD,aq6 (by rw[h0];decide),aq7 (by rw[ky];exact p8 hy bp h2)];rfl
  have h2:fB y.name j.name=false:=z;refine ga aN ?_;exact aM J1 (k+1) ⟨bp,oT hy hd h2⟩
 have bp:=bj hk z;subst bp;have dN:¬km (l.jo.map Jt.name) k=true:=by rw[ky,hd];decide
 have e1:ji l k=fy l j:=by unfold ji;rw[eD,aq6 (by rw[h0];decide),aq6 dN]
 refine gC (fun z=>?_) (fun z=>?_)
 ·have h1:=JB z;refine ah ?_;rw[e1];unfold fy;rw[aq7 h1];rfl
 have h1:=N7 z;refine gl ?_;refine gc (vM j.a l.bo.length) ?_;refine cA ?_;refine bT (fun _=>(vM j.b l.bo.length)) ?_;refine gC (fun z=>?_) (fun z=>?_)
 ·have h2:=uK z;refine ah ?_;rw[e1];unfold fy;rw[aq6 h1,aq7 h2];rfl
 have h2:=ui z;have lK:¬(bR j.a l.bo.length=false\/bR j.b l.bo.length=false):=by rw[h2.1,h2.2];simp
 obtain⟨A,hA,pA,mA,zA0⟩:=vN h2.1;obtain⟨B,hB,pB,mB,zB0⟩:=vN h2.2;refine gC (fun z=>?_) (fun z=>?_)
 ·have h3:=dL z;refine ah ?_;rw[e1];unfold fy;rw[aq6 h1,aq6 lK,aq7 h3];rfl
 have h3:=eZ z;refine gi (aA hA) ?_;refine gi (aA hB) ?_;refine gD ?_;refine gl ?_;refine gc (vM j.point A.pts.length) ?_;refine cA ?_;refine bT (fun _=>(vM j.on B.pts.length)) ?_;refine gC (fun z=>?_) (fun z=>?_)
 ·have h4:=uK z;refine ah ?_;rw[e1];unfold fy;rw[aq6 h1,aq6 lK,aq6 h3,pA,pB,aq7 h4];rfl
 have h4:=ui z;have pv:¬(bR j.point A.pts.length=false\/bR j.on B.pts.length=false):=by rw[h4.1,h4.2];simp
 refine gC (fun z=>?_) (fun z=>?_)
 ·have h5:=dL z;refine gC (fun z=>?_) (fun z=>?_)
  ·have h6:=ut z;refine ah ?_;rw[e1];unfold fy;rw[aq6 h1,aq6 lK,aq6 h3,pA,pB,aq6 pv,aq7 h5,aq7 h6];rfl
  have h6:=Cz z;refine ah ?_;rw[e1];unfold fy;rw[aq6 h1,aq6 lK,aq6 h3,pA,pB,aq6 pv,aq7 h5,aq6 (by rw[h6];simp)];rfl
 have h5:=eZ z;refine gl ?_;refine gc (vM j.to B.pts.length) ?_;refine gC (fun z=>?_) (fun z=>?_)
 ·have h6:=eI z;refine ah ?_;rw[e1];unfold fy;rw[aq6 h1,aq6 lK,aq6 h3,pA,pB,aq6 pv,aq6 h5,aq7 h6];rfl
 have h6:=eH z;obtain⟨m1,g1,d1,mm1,z1⟩:=yW h4.2;obtain⟨m2,g2,d2,mm2,z2⟩:=yW h6;have mo1:=(hl.bo B mB).pts m1 mm1;have mo2:=(hl.bo B mB).pts m2 mm2;refine gi (aA g1) ?_;refine gi (aA g2) ?_;refine gc (adw m1 m2 mo1 mo2) ?_;refine gD ?_;refine gC (fun z=>?_) (fun z=>?_)
 ·have h7:=aq9 z;refine ah ?_;rw[e1];unfold fy;rw[aq6 h1,aq6 lK,aq6 h3,pA,pB,aq6 pv,aq6 h5,aq6 (by rw[h6];decide),d1,d2,aq7 h7];rfl
 have h7:=ara z;refine ah ?_;rw[e1];unfold fy;rw[aq6 h1,aq6 lK,aq6 h3,pA,pB,aq6 pv,aq6 h5,aq6 (by rw[h6];decide),d1,d2,aq6 h7];rfl
theorem aji(l:Li)(hl:l.ok)(i:Nat)(hi:i<l.dv.length)(h2l:l.dv.length<=2):FP 74 [l.av,i64 i] (i64 (fw l i)):=by
 obtain⟨b,hb⟩:=ay hi;have eD:l.dv.getD i default=b:=ax hb;have ky:=rU Dr.name hb;refine ai func74 ?_;refine gi (aA hb) ?_;refine gc (zj b.name (hl.dnames b (apo hb))) ?_;refine gC (fun z=>?_) (fun z=>?_)
 ·have h1:=eI z;refine ah ?_;unfold fw;rw[eD,aq7 h1];rfl
 have h1:=eH z;refine aS [1,2,5] [2,5] (fun(k:Nat)=>[pP 6 (i64 k)]) (fun _=>[]) (fun k=>k<=i/\(l.dv.take k).any (fun y=>fB y.name b.name)=false) (fun k=>i-k) 0 ⟨apx _,rfl⟩ ?_;rintro k ⟨hk,hd⟩ K1 J1;refine gC (fun z=>?_) (fun z=>?_)
 ·have bp:=a7 z;obtain⟨y,hy⟩:∃y,l.dv[k]?=some y:=ay oz;refine gi (aA hy) ?_;refine gD ?_;refine gC (fun z=>?_) (fun z=>?_)
  ·have h2:fB y.name b.name=true:=z;refine ah ?_;unfold fw;rw[eD,aq6 (by rw[h1];decide),aq7 (by rw[ky];exact p8 hy bp h2)];rfl
  have h2:fB y.name b.name=false:=z;refine ga aN ?_;exact aM J1 (k+1) ⟨bp,oT hy hd h2⟩
 have bp:=bj hk z;subst bp;have dN:¬km (l.dv.map Dr.name) k=true:=by rw[ky,hd];decide
 refine gl ?_;refine gc (vM b.body l.bo.length) ?_;refine gC (fun z=>?_) (fun z=>?_)
 ·have h3:=eI z;refine ah ?_;unfold fw;rw[eD,aq6 (by rw[h1];decide),aq6 dN,aq7 h3];rfl
 have h3:=eH z;refine gC (fun z=>?_) (fun z=>?_)
 ·have h4:=dL z;refine ah ?_;unfold fw;rw[eD,aq6 (by rw[h1];decide),aq6 dN,aq6 (by rw[h3];decide),aq7 h4];rfl
 have h4:=eZ z;have e1:fw l k=if(l.dv.take k).any (fun d=>decide (d.body=b.body))=true then 6 else 0:=by unfold fw;rw[eD,aq6 (by rw[h1];decide),aq6 dN,aq6 (by rw[h3];decide),aq6 h4]
 refine aS [1,2,5] [2,5] (fun(q:Nat)=>[pP 7 (i64 q)]) (fun _=>[]) (fun q=>q<=k/\(l.dv.take q).any (fun d=>decide (d.body=b.body))=false) (fun q=>k-q) 0 ⟨apx _,rfl⟩ ?_;rintro q ⟨hq,pu⟩ K2 J2;refine gC (fun z=>?_) (fun z=>?_)
 ·have dF:=a7 z;obtain⟨y,hy⟩:∃y,l.dv[q]?=some y:=ay oz;refine gi (aA hy) ?_;refine gD ?_;refine gC (fun z=>?_) (fun z=>?_)
  ·have h5:decide (y.body=b.body)=true:=arb (dL z);refine ah ?_;rw[e1,aq7 (p8 hy dF h5)];rfl
  have h5:decide (y.body=b.body)=false:=arc (eZ z);refine ga aN ?_;exact aM J2 (q+1) ⟨dF,oT hy pu h5⟩
 have dF:=bj hq z;subst dF;refine ah ?_;rw[e1,pu];rfl
theorem Po(l:Li)(hl:l.ok):FP 19 [l.av] (i64 (aG l)):=by
 have eY:=hl.lb;refine ai func19 ?_;refine gc (zj l.name hl.name) ?_;refine gC (fun z=>?_) (fun z=>?_)
 ·have h1:=eI z;refine ah ?_;unfold aG;rw[aq7 h1];rfl
 have h1:=eH z;refine gl ?_;refine gC (fun z=>?_) (fun z=>?_)
 ·have h2:=LE z;refine ah ?_;unfold aG;rw[aq6 (by rw[h1];decide),aq7 h2];rfl
 have h2:=O5 z;refine gl ?_;refine gC (fun z=>?_) (fun z=>?_)
 ·have h3:8<l.bo.length:=my z;refine ah ?_;unfold aG;rw[aq6 (by rw[h1];decide),aq6 h2,aq7 h3];rfl
 have h3:l.bo.length<=8:=kD z;have e0:aG l=if jw l≠0 then jw l else if fR l≠0 then fR l else iP l:=by unfold aG;rw[aq6 (by rw[h1];decide),aq6 h2,aq6 oz]
 refine gc (Ut l hl) ?_;refine gC (fun z=>?_) (fun z=>?_)
 ·have h4:jw l≠0:=oR z;refine ah ?_;rw[e0,aq7 h4]
 have h4:jw l=0:=oh z;refine gl ?_;refine gC (fun z=>?_) (fun z=>?_)
 ·have h5:16 < l.jo.length:=my z;have ej:fR l = 4:=by unfold fR; rw [aq7 h5]
  refine ah ?_;rw[e0,aq6 (by rw[h4];simp),aq7 (by rw[ej];decide),ej];rfl
 have h5:l.jo.length<=16:=kD z;have ej:fR l=iA l.jo.length (ji l):=by unfold fR;rw[aq6 oz]
 refine aS [1] [1] (fun(i:Nat)=>[pP 4 (i64 i)]) (fun _=>[]) (fun i=>i<=l.jo.length/\∀j,j<i->ji l j=0) (fun i=>l.jo.length-i) 0 ⟨apx _,fun j h=>by omega⟩ ?_;rintro i ⟨hi,hj⟩ K1 J1;refine gl ?_;refine gC (fun z=>?_) (fun z=>?_)
 ·have ae:=a7 z;refine gc (VJ l hl i ae h5) ?_;refine gC (fun z=>?_) (fun z=>?_)
  ·have h6:=oR z;refine ah ?_;rw[e0,aq6 (by rw[h4];simp),aq7 (by rw[ej,fX ae hj h6];exact h6),ej,fX ae hj h6]
  have h6:=oh z;refine ga aN ?_;exact aM J1 (i+1) ⟨ae,fun j h9=>by rcases apz j i with g |g;exact hj j g;(have:j=i:=by omega);subst this;exact h6⟩
 have ae:=bj hi z;subst ae;have ejz:fR l=0:=ej.trans (pX hj);have e0':aG l=iP l:=by rw[e0,aq6 (by rw[h4];simp),aq6 (by rw[ejz];simp)]
 refine gl ?_;refine gC (fun z=>?_) (fun z=>?_)
 ·have h6:2<l.dv.length:=my z;refine ah ?_;rw[e0'];unfold iP;rw[aq7 h6];rfl
 have h6:l.dv.length<=2:=kD z;have ed:iP l=iA l.dv.length (fw l):=by unfold iP;rw[aq6 oz]
 refine aS [1] [1] (fun(k:Nat)=>[pP 6 (i64 k)]) (fun _=>[]) (fun k=>k<=l.dv.length/\∀j,j<k->fw l j=0) (fun k=>l.dv.length-k) 0 ⟨apx _,fun j h=>by omega⟩ ?_;rintro k ⟨hk,iX⟩ K2 J2;refine gl ?_;refine gC (fun z=>?_) (fun z=>?_)
 ·have bp:=a7 z;refine gc (aji l hl k bp h6) ?_;refine gC (fun z=>?_) (fun z=>?_)
  ·have h7:=oR z;refine ah ?_;rw[e0',ed,fX bp iX h7]
  have h7:=oh z;refine ga aN ?_;exact aM J2 (k+1) ⟨bp,fun j h9=>by rcases apz j k with g |g;exact iX j g;(have:j=k:=by omega);subst this;exact h7⟩
 have bp:=bj hk z;subst bp;refine ah ?_;rw[e0',ed,pX iX];rfl
theorem ZR(l:Li)(hl:l.okw):FP 57 [l.av] (bl (lB l)):=by
 have nv:=hl.lb;refine ai func57 ?_;refine gl ?_;refine aS [1,8,9] [1] (fun(i:Nat)=>[pP 10 (i64 i)]) (fun _=>[]) (fun i=>i<=l.bo.length/\(l.bo.take i).all uq=true) (fun i=>l.bo.length-i) 0 ⟨apx _,rfl⟩ ?_;rintro i ⟨hi,hj⟩ K1 J1;refine gC (fun z=>?_) (fun z=>?_)
 ·have ae:=a7 z;obtain⟨b,hb⟩:=ay ae;refine gi (aA hb) ?_;refine gl ?_;refine gC (fun z=>?_) (fun z=>?_)
  ·have h1:30<b.pts.length:=my z;refine ah ?_;unfold lB;rw[pN hb (by unfold uq;rw[arc oz];rfl)];rfl
  have h1:b.pts.length<=30:=kD z;refine gl ?_;refine aS [1,8,9,10,19,20] [1] (fun(k:Nat)=>[pP 21 (i64 k)]) (fun _=>[]) (fun k=>k<=b.pts.length/\(b.pts.take k).all p9=true) (fun k=>b.pts.length-k) 0 ⟨apx _,rfl⟩ ?_;rintro k ⟨hk,iX⟩ K2 J2;refine gC (fun z=>?_) (fun z=>?_)
  ·have bp:=a7 z;obtain⟨p,hp⟩:=ay bp;refine gi (aA hp) ?_;refine gl ?_;refine cA ?_;refine cA ?_;refine cA ?_;refine gC (fun z=>?_) (fun z=>?_)
   ·have h2:p9 p=false:=afp z;refine ah ?_;unfold lB;rw[pN hb (by unfold uq;rw[pN hp h2,ao1])];rfl
   have h2:p9 p=true:=UV z;refine ga aN ?_;exact aM J2 (k+1) ⟨bp,rA iX hp h2⟩
  have bp:=bj hk z;refine ga aN ?_;exact aM J1 (i+1) ⟨ae,rA hj hb (by unfold uq;rw[arb h1,ry bp iX];rfl)⟩
 have ae:=bj hi z;refine gl ?_;refine cA ?_;refine cA ?_;refine ah ?_;exact are bl (ajd (ry ae hj))
end Go.Lw
