/- DyadModes: for any linkage, any group and turn, any assembly the law returns true and leaves its arguments as they were. No other condition. Part 7 of 7: the statement -/
import Derived.Test.YtnhbhlcebbmdoaaGreatXf
import Derived.Laws.Pointers
set_option linter.unusedVariables false
open List (mem_of_getElem? mem_cons_of_mem mem_append cons_append map_cons mem_cons length_cons mem_cons_self length_append length_nil getD_eq_getElem?_getD all_eq_true getElem?_take getElem?_map nil_append map_append length_take take_of_length_le length_map drop_zero take_length not_mem_nil mem_of_mem_take map_take map_map length_replicate map_set length_set)
open Nat (eq_of_beq_eq_true le_refl le_trans zero_le)
open Option (map_eq_some_iff)
open Bool (and_eq_true)
open Int (toNat_natCast)
open Go.Proofs.Tryz
namespace Go.Lw
open Go.Proofs
theorem alc {ts:List (List Rat)} {r e:Nat} (tw:Tw ts r) {a b c:List Rat} (ha:Nm ts.length e a) (hb:Nm ts.length e b) (hc:Nm ts.length e c) (he:2 * (e + e + kB r ts.length) <= lm ts.length) :
  FnC prog 88 [acm ts,nA a,ptA b c] (.tup [ptA (sh ts.length (T.mul (aaj ts) ts.length (dec ts.length a) (dec ts.length b))) (sh ts.length (T.mul (aaj ts) ts.length (dec ts.length a) (dec ts.length c))),.v .nilIface]):=by
 refine gF0 func88 ?_;refine gc (afz (e:=e) tw [a,b,c] (by simp only [mem_cons,not_mem_nil,or_false]; rintro x (rfl | rfl | rfl) <;> assumption) (by omega) (by simp)) ?_;refine gC (fun ht19=>?_) (fun ht19=>?_) (st1:=(3,0))
 ·cases ht19
 ·refine gt (aad (Con.rekeyB 24 rfl rfl rfl rfl (aec tw ha hb (by omega))) (.cons (.tmp rfl) (.cons (.tmp rfl) (.cons (.tmp rfl) .nil))) (by first | exact hH0 | exact hH1 rfl | exact hH2 rfl rfl) rfl rfl) ?_;refine gt (aad (Con.rekeyB 24 rfl rfl rfl rfl (aec tw ha hc (by omega))) (.cons (.tmp rfl) (.cons (.tmp rfl) (.cons (.tmp rfl) .nil))) (by first | exact hH0 | exact hH1 rfl | exact hH2 rfl rfl) rfl rfl) ?_;refine gt (aad (Con.rekeyB 24 rfl rfl rfl rfl (ahx _ _ _)) (.cons (.tmp rfl) (.cons (.tmp rfl) .nil)) (by first | exact hH0 | exact hH1 rfl | exact hH2 rfl rfl) rfl rfl) ?_;refine gD ?_;refine gE2 ?_;rfl
section
variable {ts:List (List Rat)}
def rqX (q w1 w2 h:Et ts):Et ts:=q * w1 - h * -w2
def rqY (q w1 w2 h:Et ts):Et ts:=q * w2 - h * w1
def rqV (ts:List (List Rat)) (q h d:List Rat) (w:List Rat × List Rat):P2 ts:=(rqX (dE ts q) (dE ts w.1) (dE ts w.2) (dE ts h) * iE (dE ts d),rqY (dE ts q) (dE ts w.1) (dE ts w.2) (dE ts h) * iE (dE ts d))
structure Rp where
  v:Rat × Rat
  p:Rat × Rat
  a:List Rat × List Rat
  h:List Rat
  d:List Rat
  w:List Rat × List Rat
def rqQ (ts:List (List Rat)) (R:Rp) (q:List Rat):Pq:=bdQ R.v (rqV ts q R.h R.d R.w) R.p (dE ts R.a.1,dE ts R.a.2)
structure RqP (ts:List (List Rat)) (R:Rp) (q:List Rat):Prop where
  sm:Sm 3000 R.v
  sp:Sm 3000 R.p
  c1:FnC prog 88 [acm ts,nA q,ptA R.w.1 R.w.2] (.tup [ptA (sX (dE ts q * dE ts R.w.1)) (sX (dE ts q * dE ts R.w.2)),.v .nilIface])
  ng:FnC prog 73 [acm ts,nA R.w.2] (.tup [nA (sX (-dE ts R.w.2)),.v .nilIface])
  c2:FnC prog 88 [acm ts,nA R.h,ptA (sX (-dE ts R.w.2)) R.w.1] (.tup [ptA (sX (dE ts R.h * -dE ts R.w.2)) (sX (dE ts R.h * dE ts R.w.1)),.v .nilIface])
  sb:FnC prog 60 [acm ts,ptA (sX (dE ts q * dE ts R.w.1)) (sX (dE ts q * dE ts R.w.2)),ptA (sX (dE ts R.h * -dE ts R.w.2)) (sX (dE ts R.h * dE ts R.w.1))] (.tup [ptA (sX (rqX (dE ts q) (dE ts R.w.1) (dE ts R.w.2) (dE ts R.h))) (sX (rqY (dE ts q) (dE ts R.w.1) (dE ts R.w.2) (dE ts R.h))),.v .nilIface])
  d1:FnC prog 198 [acm ts,nA (sX (rqX (dE ts q) (dE ts R.w.1) (dE ts R.w.2) (dE ts R.h))),nA R.d] (.tup [nA (sX (rqV ts q R.h R.d R.w).1),.v .nilIface])
  d2:FnC prog 198 [acm ts,nA (sX (rqY (dE ts q) (dE ts R.w.1) (dE ts R.w.2) (dE ts R.h))),nA R.d] (.tup [nA (sX (rqV ts q R.h R.d R.w).2),.v .nilIface])
  e1:sX (dE ts R.a.1) = R.a.1
  e2:sX (dE ts R.a.2) = R.a.2
  b:BdP ts R.v (rqV ts q R.h R.d R.w) R.p (dE ts R.a.1,dE ts R.a.2)
theorem RqP.body {R:Rp} {q:List Rat} (H:RqP ts R q) :
  Con prog 78 [.ptr 1000 0,qP R.v,lpA (rqV ts q R.h R.d R.w).l,qP R.p,ptA R.a.1 R.a.2] [(1000,some (mdA ts))] (rqQ ts R q).av [(1000,some (mdA ts))]:=by
 have hb:=aot H.sm H.sp H.b
 have e:lpA (P2.l ((dE ts R.a.1, dE ts R.a.2):P2 ts)) = ptA R.a.1 R.a.2:=by
  show ptA (sX (dE ts R.a.1)) (sX (dE ts R.a.2)) = _;rw [H.e1,H.e2]
 rw [e] at hb;exact hb
theorem bdg {R:Rp} {q:List Rat} {j:Nat} (cy:Cy ts 700000000 1000000000) (sm:Sm 3000 R.v) (sp:Sm 3000 R.p) (h0:anv R.v R.v ≠ 0) (nq:Nm ts.length 700000000 q) (nh:Nm ts.length 700000000 R.h) (nd:Nm ts.length 700000000 R.d)
  (n1:Nm ts.length 700000000 R.w.1) (n2:Nm ts.length 700000000 R.w.2) (a1:Nm ts.length 700000000 R.a.1) (a2:Nm ts.length 700000000 R.a.2) (e1:sX (dE ts R.a.1) = R.a.1) (e2:sX (dE ts R.a.2) = R.a.2)
  (nj:Nl j R.d) (hj:j <= ts.length) (hj1:j <= 1) (hd:sgE (dE ts R.d) ≠ 0):RqP ts R q:=by
 obtain ⟨r,tw,hk⟩:=cy.ex;have hl:=cy.lm;haveI:=cy;haveI zq:Zl ts 700000000 1000000000 q (dE ts q) 1 0:=Zl.at nq (le_refl _);haveI zh:Zl ts 700000000 1000000000 R.h (dE ts R.h) 1 0:=Zl.at nh (le_refl _);haveI zd:Zl ts 700000000 1000000000 R.d (dE ts R.d) 1 0:=Zl.at nd (le_refl _);haveI z1:Zl ts 700000000 1000000000 R.w.1 (dE ts R.w.1) 1 0:=Zl.at n1 (le_refl _);haveI z2:Zl ts 700000000 1000000000 R.w.2 (dE ts R.w.2) 1 0:=Zl.at n2 (le_refl _);haveI:=zq.zu; haveI:=zh.zu; haveI:=z1.zu; haveI:=z2.zu
 haveI zn:Zu 700000000 1000000000 (-dE ts R.w.2) 1 0:=inferInstance;haveI y1:Zu 700000000 1000000000 (dE ts q * dE ts R.w.1) 2 1:=inferInstance;haveI y2:Zu 700000000 1000000000 (dE ts q * dE ts R.w.2) 2 1:=inferInstance;haveI y3:Zu 700000000 1000000000 (dE ts R.h * -dE ts R.w.2) 2 1:=inferInstance;haveI y4:Zu 700000000 1000000000 (dE ts R.h * dE ts R.w.1) 2 1:=inferInstance;haveI x1:Zu 700000000 1000000000 (rqX (dE ts q) (dE ts R.w.1) (dE ts R.w.2) (dE ts R.h)) 4 3:=(inferInstance:Zu 700000000 1000000000 (dE ts q * dE ts R.w.1 - dE ts R.h * -dE ts R.w.2) 4 3)
 haveI x2:Zu 700000000 1000000000 (rqY (dE ts q) (dE ts R.w.1) (dE ts R.w.2) (dE ts R.h)) 4 3:=(inferInstance:Zu 700000000 1000000000 (dE ts q * dE ts R.w.2 - dE ts R.h * dE ts R.w.1) 4 3)
 have ew:∀ x:Et ts,dec ts.length (sX x) = x:=fun x=>abk _ _
 have hkB:kB r ts.length <= 1000000000:=hk;have c1:=alc tw nq n1 n2 (by rw [hl]; omega);have ng:=blm (ts:=ts) (u:=700000000) (k:=1000000000) (a:=R.w.2) (by decide);have nn:Nm ts.length 700000000 (sX (-dE ts R.w.2)):=zn.nm.mono (by decide);have c2:=alc tw nh nn n1 (by rw [hl]; omega);rw [ew] at c2;have sb:=apd (a:=sX (dE ts q * dE ts R.w.1)) (b:=sX (dE ts q * dE ts R.w.2)) (c:=sX (dE ts R.h * -dE ts R.w.2)) (d:=sX (dE ts R.h * dE ts R.w.1)) tw y1.nm y2.nm y3.nm y4.nm (by rw [hl]; decide);rw [ew,ew,ew,ew] at sb;have d1:=arv (ts:=ts) (u:=700000000) (k:=1000000000) (a:=sX (rqX (dE ts q) (dE ts R.w.1) (dE ts R.w.2) (dE ts R.h))) (b:=R.d) nj hj hj1 hd (by decide);have d2:=arv (ts:=ts) (u:=700000000) (k:=1000000000) (a:=sX (rqY (dE ts q) (dE ts R.w.1) (dE ts R.w.2) (dE ts R.h))) (b:=R.d) nj hj hj1 hd (by decide);exact ⟨sm,sp,c1,ng,c2,sb,d1.1,d2.1,e1,e2,a79 tw cy.two hkB sm sp h0 (d1.2.nm.mono (by decide)) (d2.2.nm.mono (by decide)) (by show Nm ts.length 700000000 (sX (dE ts R.a.1)); rw [e1]; exact a1) (by show Nm ts.length 700000000 (sX (dE ts R.a.2)); rw [e2]; exact a2)⟩
end
def rqS (ts:List (List Rat)) (R:Rp) (qs:List (List Rat)) (i:Nat):Sv:=⟨ts,[rqQ ts R (qs.getD i [])],if qs.length = 1 then 0 else 1 - 2 * (i:Int)⟩
def rqL (ts:List (List Rat)) (R:Rp) (qs:List (List Rat)) (n:Nat):List AV:=(List.range n).map fun i=>(rqS ts R qs i).av
theorem axc (ts:List (List Rat)) (R:Rp) (qs:List (List Rat)) (n:Nat):(rqL ts R qs n).length = n:=by simp [rqL]
theorem bay (ts:List (List Rat)) (R:Rp) (qs:List (List Rat)) (n:Nat):rqL ts R qs (n + 1) = rqL ts R qs n ++ [(rqS ts R qs n).av]:=by unfold rqL; rw [List.range_succ]; simp
def rpP (l:Li) (a:As) (i:Int) (j0 j:Jt):Rp:=⟨rpV l i j,aca l j0 i,P2.l (aen l a j0 i),sh 0 (rpH l i j0 j:Rat),sX (rpD l a i j0 j),P2.l (rpW l a i j0 j)⟩
def rpX (l:Li) (a:As) (i:Int) (j0 j:Jt):Et (llq a.rs):=qE (rpN l i j) * rpD l a i j0 j - qE (rpH l i j0 j) * qE (rpH l i j0 j)
def rpR (l:Li) (a:As) (i:Int) (j0 j:Jt):List AV × Nat :=
  if sgE (rpD l a i j0 j) = 0 /\ sgE (qE (rpH l i j0 j):Et (llq a.rs)) = 0 then ([],15)
  else if sgE (rpX l a i j0 j) < 0 then ([],0)
  else if 0 < sgE (rpX l a i j0 j) then (rqL (ack (llq a.rs) (sX (rpX l a i j0 j))) (rpP l a i j0 j) [aei (llq a.rs).length,sX (-lnR (rpX l a i j0 j))] 2,0)
  else (rqL (llq a.rs) (rpP l a i j0 j) [[]] 1,0)
theorem blu {ts:List (List Rat)} {r:Nat} (tw:Tw ts r) {n d h:Et ts} (hs:¬ sgE (n * d - h * h) < 0) (h1:¬ (sgE d = 0 /\ sgE h = 0)):sgE d ≠ 0:=by
 intro h0;have S:=a1f (aaj ts) ts.length tw.pos
 have e1:sg (aaj ts) ts.length (n * d) = 0:=by
  rw [S.mul];have:sg (aaj ts) ts.length d = 0:=h0;rw [this]; exact Int.mul_zero _
 have e2:=S.zadd (y:=-(h * h)) e1;rw [show n * d + -(h * h) = n * d - h * h by grind,S.neg,S.mul] at e2;have e3:sgE (n * d - h * h) = sg (aaj ts) ts.length (n * d - h * h):=rfl;have e4:sgE h = sg (aaj ts) ts.length h:=rfl;have h2:sg (aaj ts) ts.length h ≠ 0:=fun h9=>h1 ⟨h0,by rw [e4]; exact h9⟩
 rw [e3,e2] at hs;rcases S.cs h with g | g | g
 ·rw [g] at hs; exact hs (by decide)
 ·exact h2 g
 ·rw [g] at hs; exact hs (by decide)
theorem bmw {p q:Rat} (h:p * p + q * q = 0):p = 0 /\ q = 0:=by
 have h1:=azz p;have h2:=azz q;have h3:p * p = 0:=by grind
 have h4:q * q = 0:=by grind
 exact ⟨by rcases Rat.mul_eq_zero.1 h3 with g | g <;> exact g,by rcases Rat.mul_eq_zero.1 h4 with g | g <;> exact g⟩
theorem bpz {l:Li} (hli:liE l = 0) {n:Nat} {j:Jt} (hj:l.joints[n]? = some j) (hk:j.kind ≠ 0) {i:Int} (hi:j.b = i):anv (rpV l i j) (rpV l i j) ≠ 0:=by
 intro h0;obtain ⟨h1,h2⟩:=bmw h0;have h3:=bna hli hj;subst hi;have e1:(mkQ l j.b j.to).1 - (mkQ l j.b j.on).1 = 0:=h1;have e2:(mkQ l j.b j.to).2 - (mkQ l j.b j.on).2 = 0:=h2;have e3:((aeo l j.b).getD j.on.toNat default).x.q = ((aeo l j.b).getD j.to.toNat default).x.q:=by unfold mkQ at e1; dsimp only at e1; grind
 have e4:((aeo l j.b).getD j.on.toNat default).y.q = ((aeo l j.b).getD j.to.toNat default).y.q:=by unfold mkQ at e2; dsimp only at e2; grind
 unfold jt0 at h3;split at h3
 ·cases h3
 ·split at h3
  ·cases h3
  ·split at h3
   ·cases h3
   ·split at h3
    ·cases h3
    ·split at h3
     ·cases h3
     ·first | (rw [if_pos ⟨e3,e4⟩] at h3; cases h3) | (split at h3 <;> first | (cases h3; done) | (rename_i g; exact absurd ⟨e3,e4⟩ g))
theorem bc1:Sub (.lst 1 [.v (.slice none 0 0)]) (.lst 1 [nA []]):=by
 refine Sub.lst rfl (fun i x y hx hy=>?_)
 match i,hx,hy with
 | 0, hx, hy =>
  cases hx; cases hy
  refine ⟨rfl,fun j x y hx hy=>?_⟩
  match j,hx,hy with
  | 0,hx,hy=>cases hx; cases hy; exact ⟨rfl,.nil _ _ _⟩
theorem bp7 {x y:Int} (h:cond (aaa .eql x 0) (aaa .eql y 0) false = true):x = 0 /\ y = 0:=by
 cases h1:aaa .eql x 0
 ·rw [h1] at h; cases h
 ·rw [h1] at h; exact ⟨aeq h1,aeq h⟩
theorem bos {x y:Int} (h:cond (aaa .eql x 0) (aaa .eql y 0) false = false):¬ (x = 0 /\ y = 0):=by
 rintro ⟨rfl,rfl⟩;cases h
structure RpF (l:Li) (a:As) (i:Int) (j0 j:Jt):Prop where
  hv:Sm 3000 (rpV l i j)
  hp:Sm 3000 (aca l j0 i)
  vv:anv (rpV l i j) (rpV l i j) ≠ 0
  zl:Zl (llq a.rs) 4000 300000 (sh 0 (rpH l i j0 j:Rat)) (qE (rpH l i j0 j)) 3 0
  z3:Zu 4000 300000 (rpD l a i j0 j) 320 327
  zX:Zu 4000 300000 (rpX l a i j0 j) 976 989
  w1:Zu 4000 300000 (rpW l a i j0 j).1 80 81
  w2:Zu 4000 300000 (rpW l a i j0 j).2 80 81
  y1:Zu 4000 300000 (aen l a j0 i).1 40 40
  y2:Zu 4000 300000 (aen l a j0 i).2 40 40
theorem bdn {l:Li} {a:As} (D:DyR l a) (hn:(llq a.rs).length <= 1) {g:Gr} {i z0 z1:Int} {j0 j:Jt} (P:SlP l a g 3 i z0 z1 j0 j) (hj:j.b = i) (hb:Pd a j.a):RpF l a i j0 j:=by
 haveI c:=D.al.ct D.hc;have ck:=c.k1;haveI cy:Cy (llq a.rs) 4000 300000:=⟨c.ex,c.k1,c.u3,by omega⟩
 have hs0:Sm 1000 (aca l j0 i):=agk D.hl D.li P.h0 P.p0.or;obtain ⟨i1,i2,i3,i4,i5⟩:=ahj D.li P.h1;have hs1:Sm 1000 (mkQ l i j.on):=by rw [<- hj]; exact ara D.hl D.li i2 i4
 have hs2:Sm 1000 (mkQ l i j.to):=by rw [<- hj]; exact ara D.hl D.li i2 (i5 P.hk)
 have hv:Sm _ (rpV l i j):=hs2.sub hs1;haveI qn:Qz 4000 (rpN l i j) 3:=a47 (hv.dot hv) (by omega);haveI qh:Qz 4000 (rpH l i j0 j) 3:=a47 (hv.cross (hs1.sub hs0)) (by omega);obtain ⟨w1,w2⟩:=bdr D P.h0 P.p0 P.h1 hb;obtain ⟨y1,y2⟩:=aja D.hl D.li D.al D.hc P.h0 P.p0;haveI:=w1; haveI:=w2
 haveI z3:Zu 4000 300000 (rpD l a i j0 j) 320 327:=(inferInstance:Zu 4000 300000 (dotE (rpW l a i j0 j).1 (rpW l a i j0 j).2 (rpW l a i j0 j).1 (rpW l a i j0 j).2) _ _)
 exact ⟨hv.mono (by omega),hs0.mono (by omega),bpz D.li P.h1 P.hk hj,Cy.zq,z3,bfh (inferInstance:Zu 4000 300000 (qE (rpN l i j) * rpD l a i j0 j - qE (rpH l i j0 j) * qE (rpH l i j0 j)) _ _) (by decide) (by decide),w1,w2,y1,y2⟩
theorem a9s {l:Li} {a:As} {i:Int} {j0 j:Jt} (F:RpF l a i j0 j) (tw:Tw (llq a.rs) 40000) (hn:(llq a.rs).length <= 1) (hd0:sgE (rpD l a i j0 j) ≠ 0) (hp:0 <= sgE (rpX l a i j0 j)) :
  ExtP (rpX l a i j0 j) /\ RqP (ack (llq a.rs) (sX (rpX l a i j0 j))) (rpP l a i j0 j) (aei (llq a.rs).length) /\ RqP (ack (llq a.rs) (sX (rpX l a i j0 j))) (rpP l a i j0 j) (sX (-lnR (rpX l a i j0 j))) /\
  FnC prog 73 [acm (ack (llq a.rs) (sX (rpX l a i j0 j))),nA (aei (llq a.rs).length)] (.tup [nA (sX (-lnR (rpX l a i j0 j))),.v .nilIface]):=by
 have E:ExtP (rpX l a i j0 j):=aow tw hn F.zX hp;have ce:=E.cy;have zr:Nm (ack (llq a.rs) (sX (rpX l a i j0 j))).length 700000000 (aei (llq a.rs).length):=(asp (by omega)).mono (by decide);haveI zrl:Zl (ack (llq a.rs) (sX (rpX l a i j0 j))) 700000000 1000000000 (aei (llq a.rs).length) (lnR (rpX l a i j0 j)) 1 0:=Zl.at zr (by decide);haveI:=zrl.zu;have hng:=blm (ts:=ack (llq a.rs) (sX (rpX l a i j0 j))) (u:=700000000) (k:=1000000000) (a:=aei (llq a.rs).length) (by decide);have zn:Nm (ack (llq a.rs) (sX (rpX l a i j0 j))).length 700000000 (sX (-lnR (rpX l a i j0 j))):=(inferInstance:Zu 700000000 1000000000 (-lnR (rpX l a i j0 j)) 1 0).nm.mono (by decide)
 have hR:∀ q, Nm (ack (llq a.rs) (sX (rpX l a i j0 j))).length 700000000 q -> RqP (ack (llq a.rs) (sX (rpX l a i j0 j))) (rpP l a i j0 j) q:=fun q nq =>
  bdg (R := rpP l a i j0 j) (j := (llq a.rs).length) ce F.hv F.hp F.vv nq (anj (F.zl.nm.mono (by decide)) (by omega)) (anj (F.z3.nm.mono (by decide)) (by omega)) (anj (F.w1.nm.mono (by decide)) (by omega)) (anj (F.w2.nm.mono (by decide)) (by omega))
   (anj (F.y1.nm.mono (by decide)) (by omega)) (anj (F.y2.nm.mono (by decide)) (by omega)) (a6l hn _ _ F.y1.nm).2 (a6l hn _ _ F.y2.nm).2 F.z3.nm.nl (by rw [adv]; omega) hn (by rw [show sgE (dE (ack (llq a.rs) (sX (rpX l a i j0 j))) (rpP l a i j0 j).d) = sgE (rpD l a i j0 j) from bh4]; exact hd0)
 exact ⟨E,hR _ zr,hR _ zn,hng⟩
theorem a0n {l:Li} {a:As} {i:Int} {j0 j:Jt} (F:RpF l a i j0 j) (tw:Tw (llq a.rs) 40000) (hn:(llq a.rs).length <= 1) (hd0:sgE (rpD l a i j0 j) ≠ 0):Cy (llq a.rs) 700000000 1000000000 /\ RqP (llq a.rs) (rpP l a i j0 j) []:=by
 have cs:Cy (llq a.rs) 700000000 1000000000:=⟨⟨40000,tw,by show kB 40000 (llq a.rs).length <= _; have:=kb4 tw.three; omega⟩,by omega,by omega,by omega⟩
 have nil0:Nm (llq a.rs).length 700000000 []:=⟨tw.five,.inl rfl,Cb.nil.mono (by omega)⟩
 exact ⟨cs, bdg (R := rpP l a i j0 j) (j := (llq a.rs).length) cs F.hv F.hp F.vv nil0 (F.zl.nm.mono (by decide)) (F.z3.nm.mono (by decide)) (F.w1.nm.mono (by decide)) (F.w2.nm.mono (by decide))
   (F.y1.nm.mono (by decide)) (F.y2.nm.mono (by decide)) (axg _ _ F.y1.nm).2 (axg _ _ F.y2.nm).2 F.z3.nm.nl (le_refl _) hn (by rw [show sgE (dE (llq a.rs) (rpP l a i j0 j).d) = sgE (rpD l a i j0 j) from congrArg sgE (abk _ _)]; exact hd0)⟩
theorem au1 {l:Li} {a:As} (D:DyR l a) (hn:(llq a.rs).length <= 1) {i z0 z1:Int} {j0 j:Jt} (hg:GrOk l ⟨3, [i], [z0, z1], 0⟩) (P:SlP l a ⟨3, [i], [z0, z1], 0⟩ 3 i z0 z1 j0 j) (hj:j.b = i) (hb:Pd a j.a) :
  Con prog 27 [.ptr 1000 0] [(1000,some (svB l ⟨3,[i],[z0,z1],0⟩ a))] (rsA (rpR l a i j0 j)) [(1000,some (svB l ⟨3,[i],[z0,z1],0⟩ a))]:=by
 haveI c:=D.al.ct D.hc;obtain ⟨tw,etw⟩:=ac5 D.al.tr D.hc;haveI cy:Cy (llq a.rs) 4000 300000:=⟨c.ex,c.k1,c.u3,by omega⟩
 have hlm:=cy.lm;have F:=bdn D hn P hj hb;obtain ⟨i1,i2,i3,i4,i5⟩:=ahj D.li P.h1;have hs0:Sm 1000 (aca l j0 i):=agk D.hl D.li P.h0 P.p0.or;have hs1:Sm 1000 (mkQ l i j.on):=by rw [<- hj]; exact ara D.hl D.li i2 i4
 have hs2:Sm 1000 (mkQ l i j.to):=by rw [<- hj]; exact ara D.hl D.li i2 (i5 P.hk)
 have hv:Sm _ (rpV l i j):=hs2.sub hs1;haveI qn:Qz 4000 (rpN l i j) 3:=a47 (hv.dot hv) (by omega);haveI qh:Qz 4000 (rpH l i j0 j) 3:=a47 (hv.cross (hs1.sub hs0)) (by omega);haveI z3:=F.z3;haveI zX:=F.zX;haveI zl:=F.zl;have hrr:=att D (i:=i) (j0:=j0) (j:=j) (by decide);have m1:=atj (ts:=llq a.rs) (u:=4000) (k:=300000) (a:=sX (rpX l a i j0 j)) (by decide);have m2:=atj (ts:=llq a.rs) (u:=4000) (k:=300000) (a:=sX (rpD l a i j0 j)) (by decide);have m3:=atj (ts:=llq a.rs) (u:=4000) (k:=300000) (a:=sh 0 (rpH l i j0 j:Rat)) (by decide);refine gF func27 (fun k z h=>aaz h) ?_ (2,0);refine gW (Wk.o (sl:=[(0,some (.ptr 1000 0)),(4,some (.ptr 24 0))]) (hp:=[(1000,some (svB l ⟨3,[i],[z0,z1],0⟩ a)),(24,some (mdB a.rs))])) ?_;refine gt (aad (Con.rekeyBB 1000 24 (by decide) (by decide) rfl rfl rfl rfl rfl rfl (bh5 D hg P.h0 P.h1 P.p0 hj P.hk hb)) (.cons (.tmp rfl) (.cons (.tmp rfl) .nil)) (by first | exact hH0 | exact hH1 rfl | exact hH2 rfl rfl) rfl rfl) ?_;refine gt (aad (Con.rekeyB1 24 rfl rfl rfl rfl rfl hrr) (.cons (.tmp rfl) (.cons (.tmp rfl) .nil)) (by first | exact hH0 | exact hH1 rfl | exact hH2 rfl rfl) rfl rfl) ?_ (4,0);refine gW (Wk.of (sl:=[(4,some (.ptr 24 0)),(5,some (.ptr 5 0)),(6,some (nA (sX (rpX l a i j0 j))))]) (hp:=[(1000,some (svB l ⟨3,[i],[z0,z1],0⟩ a)),(5,some (.box (rpC l a i j0 j))),(24,some (mdA (llq a.rs)))]) abj (.cons rfl (.refl _) (.cons rfl (.refl _) (.cons rfl (BlkSub.boxL (.cons (.of (aiy etw)) (.cons (.refl _) .nil)) rfl) .nil)))) ?_;refine gt (aaf (Con.rekeyB 24 rfl rfl rfl rfl m1) (.cons (.tmp rfl) (.cons (.tmp rfl) .nil)) rfl rfl rfl) ?_;refine gC (fun ht34=>?_) (fun ht34=>?_) (st1:=(6,0))
 ·cases ht34
 ·refine gt (aaf (Con.rekeyB 24 rfl rfl rfl rfl m2) (.cons (.tmp rfl) (.cons (.tmp rfl) .nil)) rfl rfl rfl) ?_;refine gu (abx rfl rfl rfl (fun h=>aaf (Con.rekeyB 24 rfl rfl rfl rfl m3) (.cons (.opt rfl (o1 h)) (.cons (.opt rfl (o1 h)) .nil)) rfl rfl rfl)) ?_;refine gC (fun ht44=>?_) (fun ht44=>?_)
  ·have h1:=bp7 ht44;refine gR ?_;exact (Fin.keep (abm rfl)).sub (by unfold rpR; rw [if_pos h1]; exact Sub.tup (.cons (.nil _ _ _) (.cons (.refl _) .nil)))
  ·have h1:=bos ht44;refine gC (fun ht58=>?_) (fun ht58=>?_)
   ·have h2:sgE (rpX l a i j0 j) < 0:=of_decide_eq_true ht58;refine gR ?_;exact (Fin.keep (abm rfl)).sub (by unfold rpR; rw [if_neg h1,if_pos h2]; exact Sub.tup (.cons (.nil _ _ _) (.cons (.refl _) .nil)))
   ·have h2:¬ sgE (rpX l a i j0 j) < 0:=of_decide_eq_false ht58;have hd0:sgE (rpD l a i j0 j) ≠ 0:=blu tw h2 h1;refine gJ2 [4,5] [1000,5] (fun (T:List (List Rat)) (qs:List (List Rat))=>[(8,some (.lst 1 (qs.map nA)))]) (fun T _=>[(24,some (mdA T))]) (fun T qs=>Cy T 700000000 1000000000 /\ qs.length <= 2 /\ (∀ q ∈ qs,RqP T (rpP l a i j0 j) q) /\ rpR l a i j0 j = (rqL T (rpP l a i j0 j) qs qs.length,0)) ?_ ?_
    ·intro K1 hK1;refine gC (fun ht63=>?_) (fun ht63=>?_)
     ·have h3:0 < sgE (rpX l a i j0 j):=of_decide_eq_true ht63;obtain ⟨E,R1,R2,hng⟩:=a9s F tw hn hd0 (by omega);have ce:=E.cy;have hex:=awx (a:=sX (rpX l a i j0 j)) tw zX.nm (by rw [hlm]; decide) (by rw [show dec (llq a.rs).length (sX (rpX l a i j0 j)) = rpX l a i j0 j from abk _ _]; show 0 <= sgE (rpX l a i j0 j); omega);refine gc hex ?_;refine gC (fun ht75=>?_) (fun ht75=>?_) (st1:=(15,0))
      ·cases ht75
      ·refine gc hng ?_;refine gt (aaf (Con.rekeyB 24 rfl rfl rfl rfl (aju _ _)) (.cons (.tmp rfl) (.cons (.tmp rfl) (.cons (.tmp rfl) .nil))) rfl rfl rfl) ?_;exact jK2 hK1 (ack (llq a.rs) (sX (rpX l a i j0 j))) ([aei (llq a.rs).length,sX (-lnR (rpX l a i j0 j))]) ⟨ce,le_refl 2,bgw R1 R2,by unfold rpR; rw [if_neg h1,if_neg h2,if_pos h3]; rfl⟩
     ·have h3:¬ 0 < sgE (rpX l a i j0 j):=of_decide_eq_false ht63;obtain ⟨cs,R0⟩:=a0n F tw hn hd0;exact jK2 hK1 (llq a.rs) ([[]]) ⟨cs,by decide,a9z R0,by unfold rpR; rw [if_neg h1,if_neg h2,if_neg h3]; rfl⟩ (hw:=Wk.of (.cons rfl bc1 (.k (.k .nil))) (.cons rfl (.refl _) (.cons rfl (.refl _) (.cons rfl (.refl _) .nil))))
    ·rintro T qs ⟨ct, hql, hq, hR⟩;obtain ⟨rr,twT,hkT⟩:=ct.ex;refine gl ?_;refine gW (Wk.virt 900 3 rfl) ?_;refine gL1 [4,5,8,90,91] [1000,5,24] (fun (q:Nat)=>[(12,some (.ms 900 3 0 q)),(92,some (i64 q))]) (fun q=>[(900,some (.row 3 (rqL T (rpP l a i j0 j) qs q)))]) (fun q=>q <= qs.length) (fun q=>qs.length - q) 0 (zero_le _) ?_;rintro q hqi K2 hK2;refine gC (fun ht93=>?_) (fun ht93=>?_) (st2:=(28,0))
     ·have hin:=abv ht93;obtain ⟨x,hx⟩:=acj hin;have hx9:qs.getD q [] = x:=aag hx;have R:=hq x (mem_of_getElem? hx);refine gi (aai hx) ?_;refine gc R.c1 ?_;refine gt (aaf (Con.rekeyB 24 rfl rfl rfl rfl (al9 _ _ _)) (.cons (.tmp rfl) (.cons (.tmp rfl) (.cons (.tmp rfl) .nil))) rfl rfl rfl) ?_;refine gD ?_;refine gc R.ng ?_;refine gt (aaf (Con.rekeyB 24 rfl rfl rfl rfl (aju _ _)) (.cons (.tmp rfl) (.cons (.tmp rfl) (.cons (.tmp rfl) .nil))) rfl rfl rfl) ?_;refine gc R.c2 ?_;refine gt (aaf (Con.rekeyB 24 rfl rfl rfl rfl (al9 _ _ _)) (.cons (.tmp rfl) (.cons (.tmp rfl) (.cons (.tmp rfl) .nil))) rfl rfl rfl) ?_;refine gD ?_;refine gc R.sb ?_;refine gt (aaf (Con.rekeyB 24 rfl rfl rfl rfl (al9 _ _ _)) (.cons (.tmp rfl) (.cons (.tmp rfl) (.cons (.tmp rfl) .nil))) rfl rfl rfl) ?_;refine gD ?_;refine gt (aaf (Con.rekeyB 24 rfl rfl rfl rfl (asv R.d1)) (.cons (.tmp rfl) (.cons (.tmp rfl) (.cons (.tmp rfl) .nil))) rfl rfl rfl) ?_;refine gt (aaf (Con.rekeyB 24 rfl rfl rfl rfl (asv R.d2)) (.cons (.tmp rfl) (.cons (.tmp rfl) (.cons (.tmp rfl) .nil))) rfl rfl rfl) ?_;refine gD ?_;refine gc (amz twT) ?_;refine gt (aaf (Con.rekeyB 24 rfl rfl rfl rfl R.body) (.cons (.tmp rfl) (.cons (.tmp rfl) (.cons (.tmp rfl) (.cons (.tmp rfl) (.cons (.tmp rfl) .nil))))) rfl rfl rfl) ?_;refine gl ?_;refine gc (awl q qs.length (by omega)) ?_;refine gs (aa5 (.tmp rfl) rfl (axc _ _ _ _).symm (.tmp rfl) T47 rfl T62 rfl rfl (by dsimp only; simp only [length_cons,length_nil]; omega) rfl rfl) ?_;refine gD ?_ (27,0);refine gW (Wk.of (sl:=[(4,some (.ptr 24 0)),(5,some (.ptr 5 0)),(8,some (.lst 1 (qs.map nA))),(12,some (.ms 182 3 0 (q + 1))),(90,some (.lst 1 (qs.map nA))),(91,some (i64 qs.length)),(92,some (i64 q))]) (hp:=[(1000,some (svB l ⟨3,[i],[z0,z1],0⟩ a)),(5,some (.box (rpC l a i j0 j))),(24,some (mdA T)),(182,some (.row 3 (rqL T (rpP l a i j0 j) qs (q + 1))))]) abj (.cons rfl (.refl _) (.cons rfl (.refl _) (.cons rfl (.refl _) (.cons rfl (BlkSub.of (by rw [bay]; unfold rqS; rw [hx9]; rfl)) .nil))))) ?_ (27,0)
      refine gW (Wk.rekey (k:=182) (d:=900) rfl rfl) ?_;refine ga aa0 ?_;exact gK1 hK2 (q + 1) hin
     ·have hin:=aau hqi ht93;subst hin;refine gW ((Wk.freeze (k:=900) rfl).trans <| Wk.of (sl:=[(4,some (.ptr 24 0)),(12,some (.lst 3 (rqL T (rpP l a i j0 j) qs qs.length)))]) (hp:=[(1000,some (svB l ⟨3,[i],[z0,z1],0⟩ a)),(24,some (mdA T))]) (.k (.cons rfl (Sub.of (by rw [abu (axc _ _ _ _).symm])) .nil)) (.cons rfl (.refl _) (.cons rfl (.refl _) .nil))) ?_;refine gC (fun ht188=>?_) (fun ht188=>?_) (st1:=(29,0))
      ·cases ht188
      ·refine gR ?_;exact (Fin.keep (abm rfl)).sub (Sub.of (by rw [hR]; rfl))
end Go.Lw
namespace Go.Lw
open Go.Proofs
theorem bf8:Sub (.agg [bl (rt ((1:Int):Rat)).neg, ws (rt ((1:Int):Rat)).num, ws (rt ((1:Int):Rat)).den, .v (.bool false), .v (.slice none 0 0), .v (.slice none 0 0)]) (qP (((1:Int):Rat), 0)) :=
 Sub.agg (.cons (.refl _) (.cons (.refl _) (.cons (.refl _) (.cons (.refl _) (.cons (Sub.nil _ _ _) (.cons (Sub.nil _ _ _) .nil)))))) rfl
theorem bcg {ts:List (List Rat)} (q:Rat):sX (qE q:Et ts) = sh 0 (q:Rat):=a9p _ _
def bn9 (l:Li) (a:As) (i:Int) (j0:Jt) (x:Tn):Pq:=bdQ (((1:Int):Rat),0) ((qE (ax5 x.half x.t.q),qE (axq x.half x.t.q)):P2 (llq a.rs)) (aca l j0 i) (aen l a j0 i)
def a2t (l:Li) (a:As) (i:Int) (j0:Jt) (x:Tn):List AV × Nat:=if x.err ≠ 0 then ([],x.err) else ([(⟨llq a.rs,[bn9 l a i j0 x],1⟩:Sv).av],0)
theorem a22 {l:Li} {g:Gr} {a:As} {x:Tn} (hx:x.t.ok) (hq:Qb 1000 x.t.q) (he:x.err ≠ 0) :
  Con prog 24 [.ptr 1000 0,x.av] [(1000,some (svB l g a))] (.tup [.lst 3 [],aik x.err]) [(1000,some (svB l g a))]:=by
 refine gF func24 (fun k z h=>aaz h) ?_;refine gc (arx x hx hq (by omega)) ?_;refine gC (fun ht20=>?_) (fun ht20=>?_) (st2:=(77777,0))
 ·refine gR ?_;exact (Fin.keep (abm rfl)).sub (Sub.tup (.cons (.nil _ _ _) (.cons (.refl _) .nil)))
 ·exact absurd (adu ht20) he
theorem bdm:Sm 3000 (((1:Int):Rat),(0:Rat)):=⟨Qb.one.mono (by omega),Qb.mono (e:=1) (q:=0) ⟨by decide,by decide⟩ (by omega)⟩
theorem bd1 {l:Li} {a:As} (D:DyR l a) (hn:(llq a.rs).length <= 1) {n:Nat} {i:Int} {j0:Jt} (h0:l.joints[n]? = some j0) (p0:PinP l a j0 i) {x:Tn} (hq:Qb 1000 x.t.q) :
  BdP (llq a.rs) (((1:Int):Rat),(0:Rat)) ((qE (ax5 x.half x.t.q),qE (axq x.half x.t.q)):P2 (llq a.rs)) (aca l j0 i) (aen l a j0 i):=by
 obtain ⟨tw,etw⟩:=ac5 D.al.tr D.hc;have qc:=bds (half:=x.half) hq;have qs:=bdp (half:=x.half) hq;have hs0:Sm 1000 (aca l j0 i):=agk D.hl D.li h0 p0.or;obtain ⟨y1,y2⟩:=aja D.hl D.li D.al D.hc h0 p0;have hkb:kB 40000 (llq a.rs).length <= 1000000000:=by have:=kb4 tw.three; omega
 exact a79 (u := (((1 : Int) : Rat), (0 : Rat))) (p := aca l j0 i) (w := ((qE (ax5 x.half x.t.q), qE (axq x.half x.t.q)) : P2 (llq a.rs))) (o := aen l a j0 i) tw (by omega) hkb bdm (hs0.mono (by omega)) (by decide +kernel)
  (by show Nm _ _ (sX (qE (ax5 x.half x.t.q):Et (llq a.rs))); rw [bcg]; exact (ax2 tw.five qc).mono (by omega)) (by show Nm _ _ (sX (qE (axq x.half x.t.q):Et (llq a.rs))); rw [bcg]; exact (ax2 tw.five qs).mono (by omega)) (y1.nm.mono (by decide)) (y2.nm.mono (by decide))
theorem a60 {l:Li} {a:As} (D:DyR l a) (hn:(llq a.rs).length <= 1) {i z0 d:Int} {j0:Jt} (hg:GrOk l ⟨0, [i], [z0], d⟩) (h0:l.joints[z0.toNat]? = some j0) (p0:PinP l a j0 i) {x:Tn} (hx:x.t.ok) (hq:Qb 1000 x.t.q) (he:x.err = 0) :
  Con prog 24 [.ptr 1000 0,x.av] [(1000,some (svB l ⟨0,[i],[z0],d⟩ a))] (.tup [.lst 3 [(⟨llq a.rs,[bn9 l a i j0 x],1⟩:Sv).av],.v .nilIface]) [(1000,some (svB l ⟨0,[i],[z0],d⟩ a))]:=by
 obtain ⟨tw,etw⟩:=ac5 D.al.tr D.hc;have hc:=arx x hx hq (by omega);rw [if_pos he,he] at hc;have hs:=a33 x hx hq (by omega);rw [if_pos he,he] at hs;have qc:=bds (half:=x.half) hq;have qs:=bdp (half:=x.half) hq;have hs0:Sm 1000 (aca l j0 i):=agk D.hl D.li h0 p0.or;obtain ⟨y1,y2⟩:=aja D.hl D.li D.al D.hc h0 p0;have hb:=aot bdm (hs0.mono (by omega)) (bd1 D hn h0 p0 hq)
 have ew:lpA (P2.l ((qE (ax5 x.half x.t.q), qE (axq x.half x.t.q)):P2 (llq a.rs))) = ptA (sh 0 (ax5 x.half x.t.q:Rat)) (sh 0 (axq x.half x.t.q:Rat)):=by
  show ptA (sX (qE (ax5 x.half x.t.q):Et (llq a.rs))) (sX (qE (axq x.half x.t.q):Et (llq a.rs))) = _;rw [bcg,bcg]
 rw [ew] at hb;have hcl:=amz tw;have hcl2:FnC prog 80 [aj2 a.rs] (acm (llq a.rs)):=by rw [etw]; exact hcl
 refine gF func24 (fun k z h=>aaz h) ?_;refine gc hc ?_;refine gC (fun ht20=>?_) (fun ht20=>?_) (st1:=(3,0))
 ·cases ht20
 ·refine gc hs ?_;refine gC (fun ht28=>?_) (fun ht28=>?_) (st1:=(6,0))
  ·cases ht28
  ·refine gi rfl ?_;refine gt (aaf (alp D.hl D.li _ hg D.al D.hc (k:=0) rfl h0 p0) (.cons (.tmp rfl) (.cons (.const _) (.cons (.tmp rfl) .nil))) rfl rfl rfl) ?_;refine gD ?_ (9,0);refine gW (Wk.of (sl:=[(0,some (.ptr 1000 0)),(6,some (.ptr 6 0)),(8,some (.ptr 8 0)),(9,some (.ptr 9 0)),(10,some (.ptr 10 0)),(11,some (.ptr 52 0))]) (hp:=[(1000,some (svB l ⟨0,[i],[z0],d⟩ a)),(6,some (.box [bl (rt (ax5 x.half x.t.q)).neg,ws (rt (ax5 x.half x.t.q)).num,ws (rt (ax5 x.half x.t.q)).den])),(8,some (.box [bl (rt (axq x.half x.t.q)).neg,ws (rt (axq x.half x.t.q)).num,ws (rt (axq x.half x.t.q)).den])),(9,some (.box (qC (aca l j0 i)))),(10,some (.box [nA (sX (aen l a j0 i).1),nA (sX (aen l a j0 i).2)])),(52,some (mdA (llq a.rs)))]) abj (.cons rfl (.refl _) (.cons rfl (.refl _) (.cons rfl (.refl _) (.cons rfl (.refl _) (.cons rfl (.refl _) (.cons rfl (BlkSub.boxL (.cons (.of (aiy etw)) (.cons (.refl _) .nil)) rfl) .nil))))))) ?_
   refine gc (act 1 (by omega)) ?_;refine gc (ajr (qc.qs (by omega)) (qs.qs (by omega))) ?_;refine gt (aaf (Con.rekeyB 52 rfl rfl rfl rfl (Con.subA (.cons (.refl _) (.cons bf8 (.cons (.refl _) (.cons (.refl _) (.cons (.refl _) .nil))))) hb)) (.cons (.tmp rfl) (.cons (.tmp rfl) (.cons (.tmp rfl) (.cons (.tmp rfl) (.cons (.tmp rfl) .nil))))) rfl rfl rfl) ?_;refine gD ?_;refine gC (fun ht67=>?_) (fun ht67=>?_) (st1:=(12,0))
   ·cases ht67
   ·refine gc hcl2 ?_;refine gD ?_;refine gR ?_;exact Fin.keep (abm rfl)
theorem axs {l:Li} {a:As} (D:DyR l a) (hn:(llq a.rs).length <= 1) {i z0 d:Int} {j0:Jt} (hg:GrOk l ⟨0, [i], [z0], d⟩) (h0:l.joints[z0.toNat]? = some j0) (p0:PinP l a j0 i) {x:Tn} (hx:x.t.ok) (hq:Qb 1000 x.t.q) :
  Con prog 24 [.ptr 1000 0,x.av] [(1000,some (svB l ⟨0,[i],[z0],d⟩ a))] (rsA (a2t l a i j0 x)) [(1000,some (svB l ⟨0,[i],[z0],d⟩ a))]:=by
 by_cases he:x.err = 0
 ·have h:=a60 D hn hg h0 p0 hx hq he;unfold a2t;rw [if_neg (by omega)];exact h
 ·have h:=a22 (l:=l) (g:=⟨0, [i], [z0], d⟩) (a:=a) hx hq he;unfold a2t;rw [if_pos he];exact h
def avq (l:Li) (a:As) (g:Gr) (x:Tn):List AV × Nat :=
  if g.kind = 0 then a2t l a (bAt g 0) (jAt l g 0) x
  else if g.kind = 1 then a4a l a (bAt g 0) (bAt g 1) (jAt l g 0) (jAt l g 1) (jAt l g 2)
  else if g.kind = 2 then prR l a (bAt g 0) (jAt l g 0) (jAt l g 1)
  else rpR l a (bAt g 0) (jAt l g 0) (jAt l g 1)
theorem a0p {l:Li} {k:Int} {a:As} {own:Bool} {n:Nat} {g:Gr} (h:DyOk l k a own n g) (hk:g.kind = 0):∃ i z0 d j0, g = ⟨0, [i], [z0], d⟩ /\ l.joints[z0.toNat]? = some j0 /\ PinP l a j0 i:=by
 have hd:=h.dy;cases hd with
 | rrr _ _ _ _ _ _ _=>exact absurd hk (by simp)
 | pr _ _ _=>exact absurd hk (by simp)
 | rp _ _ _=>exact absurd hk (by simp)
 | @drv b z d j x t d0 hd hb=>exact ⟨b,z,d,j,rfl,t.hj,h.pin rfl t (by simp) (by simp)⟩
theorem aux {l:Li} {k:Int} {x:Tn} {a:As} {E:Nat} (hop:FnC prog 23 [l.av, i64 k, a.av, bl false] (.tup [.v (.pointer none), aik E])) (h0:E ≠ 0) :
  FnC prog 9 [l.av,i64 k,x.av,a.av] (.tup [.lst 3 [],aik E]):=by
 refine gF0 func9 ?_;refine gc hop ?_;refine gC (fun ht20=>?_) (fun ht20=>?_) (st2:=(77777,0))
 ·refine gR ?_;exact adc (Sub.tup (.cons (.nil _ _ _) (.cons (.refl _) .nil)))
 ·exact absurd (adu ht20) h0
theorem ayw {l:Li} {k:Int} {a:As} {n:Nat} {g:Gr} {x:Tn} (hx:x.t.ok) (hq:Qb 1000 x.t.q) (hn:(llq a.rs).length <= 1) (hop:Con prog 23 [l.av, i64 k, a.av, bl false] [] (.tup [.ptr 900 0, .v .nilIface]) [(900, some (svB l g a))]) (D:DyR l a) (ok:DyOk l k a false n g) :
  FnC prog 9 [l.av,i64 k,x.av,a.av] (rsA (avq l a g x)):=by
 have hgo:=ok.ok;refine gF0 func9 ?_;refine gt (aad hop (.cons (.tmp rfl) (.cons (.tmp rfl) (.cons (.tmp rfl) (.cons (.const _) .nil)))) (by first | exact hH0 | exact hH1 rfl | exact hH2 rfl rfl) rfl rfl) ?_ (2,0);refine gW (Wk.o (sl:=[(6,some (.ptr 6 0)),(10,some (.ptr 900 0)),(11,some (.v .nilIface))]) (hp:=[(6,some (.box x.av.cells)),(900,some (svB l g a))])) ?_;refine gC (fun ht20=>?_) (fun ht20=>?_) (st1:=(3,0))
 ·cases ht20
 ·refine gC (fun ht27=>?_) (fun ht27=>?_)
  ·have hk:g.kind = 0:=aeq ht27;obtain ⟨i,z0,d,j0,e,hj0,p0⟩:=a0p ok hk;have eR:avq l a g x = a2t l a i j0 x:=by unfold avq; rw [if_pos hk,e]; show a2t l a i (l.joints.getD z0.toNat default) x = _; rw [aag hj0]
   subst e;refine gt (aaf (Con.rekeyB 900 rfl rfl rfl rfl (axs D hn hgo hj0 p0 hx hq)) (.cons (.tmp rfl) (.cons (.tmp rfl) .nil)) rfl rfl rfl) ?_;refine gR ?_;exact adc (Sub.of (by rw [eR]; rfl))
  ·have hk0:g.kind ≠ 0:=afw ht27;refine gC (fun ht34=>?_) (fun ht34=>?_)
   ·have hk:g.kind = 1:=aeq ht34;obtain ⟨i,k2,z0,z1,z2,j0,j1,j2,P⟩:=ok.rrr hk;obtain ⟨e0,e1,e2,b0,b1,_⟩:=P.at;have eR:avq l a g x = a4a l a i k2 j0 j1 j2:=by unfold avq; rw [if_neg hk0,if_pos hk,e0,e1,e2,b0,b1]
    have e:=P.eq;subst e;refine gt (aaf (Con.rekeyB 900 rfl rfl rfl rfl (asl D hn hgo P)) (.cons (.tmp rfl) .nil) rfl rfl rfl) ?_;refine gR ?_;exact adc (Sub.of (by rw [eR]; rfl))
   ·have hk1:g.kind ≠ 1:=afw ht34;refine gC (fun ht40=>?_) (fun ht40=>?_)
    ·have hk:g.kind = 2:=aeq ht40;obtain ⟨i,z0,z1,j0,j,P,ha,hb⟩:=ok.pr hk;obtain ⟨e0,e1,b0,_⟩:=P.at;have eR:avq l a g x = prR l a i j0 j:=by unfold avq; rw [if_neg hk0,if_neg hk1,if_pos hk,e0,e1,b0]
     have e:=P.eq;subst e;refine gt (aaf (Con.rekeyB 900 rfl rfl rfl rfl (aw4 D hn hgo P ha hb)) (.cons (.tmp rfl) .nil) rfl rfl rfl) ?_;refine gR ?_;exact adc (Sub.of (by rw [eR]; rfl))
    ·have hk2:g.kind ≠ 2:=afw ht40;obtain ⟨i,z0,z1,j0,j,P,_,hj,hb⟩:=ok.rp hk0 hk1 hk2;obtain ⟨e0,e1,b0,_⟩:=P.at;have eR:avq l a g x = rpR l a i j0 j:=by unfold avq; rw [if_neg hk0,if_neg hk1,if_neg hk2,e0,e1,b0]
     have e:=P.eq;subst e;refine gt (aaf (Con.rekeyB 900 rfl rfl rfl rfl (au1 D hn hgo P hj hb)) (.cons (.tmp rfl) .nil) rfl rfl rfl) ?_;refine gR ?_;exact adc (Sub.of (by rw [eR]; rfl))
def a38 (l:Li) (k:Int) (x:Tn) (a:As):List AV × Nat:=if dyE l k a false = 0 then avq l a (gAt l k) x else ([],dyE l k a false)
theorem arl (l:Li) (hl:l.ok) (k:Int) {x:Tn} (hx:x.t.ok) (hq:Qb 1000 x.t.q) (a:As) (al:AL a) (hn:ae1 a.rs = 0 -> (llq a.rs).length <= 1):FnC prog 9 [l.av, i64 k, x.av, a.av] (rsA (a38 l k x a)):=by
 have hop:=a6s l hl k a al false;unfold a38
 by_cases h0:dyE l k a false = 0
 ·obtain ⟨n, g, ok⟩:=bhc h0;have hgA:gAt l k = g:=by unfold gAt; rw [ok.hk,toNat_natCast]; exact aag ok.hg
  rw [h0,hgA] at hop;rw [if_pos h0,hgA];exact ayw hx hq (hn ok.chk) hop ⟨hl,ok.li,al,ok.chk⟩ ok
 ·rw [a3t h0, a32 h0] at hop;rw [if_neg h0];exact aux hop h0
end Go.Lw
namespace Go.Lw
open Go.Proofs
structure SvOk (s:Sv):Prop where
  tw:∃ r,Tw s.ts r
  two:s.ts.length <= 2
  ps:∀ p ∈ s.ps,Pq.ok s.ts.length 80000000000 p
  ln:s.ps.length <= 2
theorem bg5 {ts:List (List Rat)} {r:Nat} (h:Tw ts r) (k:Nat):Tw (ts.take k) r:=by
 have hl:(ts.take k).length <= ts.length:=by rw [length_take]; omega
 have hg:∀ j,j < (ts.take k).length -> j < k /\ j < ts.length:=fun j hj=>by rw [length_take] at hj; omega
 refine ⟨le_trans hl h.three,fun j hj=>?_,fun j hj=>?_,?_,h.le⟩
 ·obtain ⟨h1, h2⟩:=hg j hj;have h3:=h.len j h2;rw [getD_eq_getElem?_getD,getElem?_take,if_pos h1,<- getD_eq_getElem?_getD];exact h3
 ·obtain ⟨h1, h2⟩:=hg j hj;have h3:=h.pos j h2;rw [T.sgn_congr j (fun i hi=>af7 (by omega:i < k)),af7 h1];exact h3
 ·obtain ⟨D, N, h1, h2, h3⟩:=h.rb;exact ⟨D,N,h1,fun d hd=>h2 d (mem_of_mem_take hd),h3⟩
theorem aun (ts:List (List Rat)) (x:T ts.length):eqT ts x x = true:=by
 unfold eqT subT;rw [T.add_neg,T.sgn_zero]; rfl
theorem bco {ts:List (List Rat)} {r:Nat} (tw:Tw ts r) {k:Nat} {d:List Rat} (hd:ts[k]? = some d) :
  FnC prog 20 [.agg [.lst 1 (((ts.map nA).drop 0).take (k - 0))],nA d,nA d] (bl true):=by
 have hk:=(List.getElem?_eq_some_iff.1 hd).1;have h3:=tw.three;have hlen:=tw.len k hk;rw [aag hd] at hlen;have hl:(ts.take k).length = k:=by rw [length_take]; omega
 have hcb:=tw.rb.cb k;rw [aag hd] at hcb;have hlm:=ard k;have hle:=tw.le;have hm:Nm (ts.take k).length r d:=⟨by omega,.inr ⟨k,by omega,hlen⟩,hcb⟩
 have h:=ae4 (bg5 tw k) hm hm (by rw [hl]; omega);rw [aun] at h;rw [Nat.sub_zero,drop_zero,<- map_take];exact h
theorem bdk {ts:List (List Rat)} {r:Nat} (tw:Tw ts r):FnC prog 123 [acm ts] (i64 0):=by
 have hC:=ao5 (ts.map (List.map rt)) r tw.tr;rw [tw.chk,agd] at hC;exact hC
theorem ays {ts:List (List Rat)} {r:Nat} (tw:Tw ts r):FnC prog 45 [acm ts, acm ts] (bl true):=by
 have h3:=tw.three;refine gF0 func45 ?_;refine gc (bdk tw) ?_;refine gcG (fun _=>(bdk tw)) ?_;refine glG ?_;refine glG ?_;refine gC (fun ht22=>?_) (fun ht22=>?_) (st1:=(2,0))
 ·exact absurd ht22 (by simp [aaa])
 ·refine gl ?_;refine gL1 [2,3,25] [2,3] (fun (k:Nat)=>[(26,some (i64 k))]) (fun _=>[]) (fun k=>k <= ts.length) (fun k=>ts.length - k) 0 (zero_le _) ?_;rintro k hk K1 hK1;refine gC (fun ht27=>?_) (fun ht27=>?_)
  ·have hin:=abv ht27;obtain ⟨d,hd⟩:=acj hin;refine gs (aao (.tmp rfl) (.none _) (.some _ (.tmp rfl) (by omega)) T34 rfl T46 rfl (by omega) (by simp only [length_map]; omega) rfl) ?_;refine gi (aai hd) ?_;refine gi (aai hd) ?_;refine gc (bco tw hd) ?_;refine gD ?_;refine gC (fun ht45=>?_) (fun ht45=>?_) (st1:=(7,0))
   ·cases ht45
   ·refine ga aa0 ?_;exact gK1 hK1 (k + 1) hin
  ·refine gE1 ?_;rfl
theorem bh8 {ts:List (List Rat)} {r:Nat} (tw:Tw ts r) (h2:ts.length <= 2) {p:Pq} (hp:Pq.ok ts.length 80000000000 p):FnC prog 46 [acm ts, p.av, p.av] (bl true):=by
 have hl:lm ts.length = 200000000000:=by unfold lm; rw [if_pos h2]
 have h:=an7 tw hp.c hp.s hp.x hp.y hp.c hp.s hp.x hp.y (by rw [hl]; omega);rw [aun,aun,aun,aun] at h;exact h
structure SolP (S:List Sv) (kd:Int) (n b:Nat):Prop where
  two:S.length <= 2
  ok:∀ s ∈ S,SvOk s
  md:∀ (i:Nat) (s:Sv),S[i]? = some s -> s.mode = (if kd = 0 then 1 else if S.length = 2 then 1 - 2 * (i:Int) else 0) /\ s.ts.length = n + (if S.length = 2 then 1 else 0) /\ s.ps.length = b
theorem ah7 (kd:Int) (n b:Nat):SolP [] kd n b:=⟨by simp,by simp,by simp⟩
theorem bes (f:Nat -> Sv) (n:Nat):((List.range n).map fun i=>(f i).av) = ((List.range n).map f).map Sv.av:=by rw [map_map]; rfl
theorem bmk {ts:List (List Rat)} {m:Mt} (ok:MtOk ts m) {hs:List Hd} (hl:hs.length <= 2) (H:∀ x ∈ m.ps, ∀ h ∈ hs, HdP m.ts x h) {kd:Int} (hk:kd ≠ 0) (lv:m.ts.length = ts.length + (if m.ps.length = 2 then 1 else 0)) :
  ∃ S:List Sv,plL m hs m.ps.length = S.map Sv.av /\ SolP S kd ts.length hs.length:=by
 have hln:=ok.ln;refine ⟨(List.range m.ps.length).map (plS m hs),bes _ _,by simpa using hln,?_,?_⟩
 ·intro s hs2;obtain ⟨i,hi,rfl⟩:=List.mem_map.1 hs2;obtain ⟨x,hx⟩:=acj (List.mem_range.1 hi);obtain ⟨r,tw,_⟩:=ok.tw;refine ⟨⟨r,tw⟩,ok.two,?_,by simpa [plS] using hl⟩;intro p hp;unfold plS at hp;rw [aag hx] at hp;obtain ⟨h,hh,rfl⟩:=List.mem_map.1 hp;exact (H x (mem_of_getElem? hx) h hh).b.ok
 ·intro i s hi;have hin:i < m.ps.length:=by have:=(List.getElem?_eq_some_iff.1 hi).1; simpa using this
  have e:s = plS m hs i:=by simp [hin] at hi; exact hi.symm
  subst e;have hlen:((List.range m.ps.length).map (plS m hs)).length = m.ps.length:=by simp
  rw [hlen,if_neg hk];refine ⟨?_,lv,by simp [plS]⟩;show (if m.ps.length = 1 then 0 else 1 - 2 * (i:Int)) = _
  by_cases h2:m.ps.length = 2
  ·rw [if_neg (by omega),if_pos h2]
  ·rw [if_pos (by omega),if_neg h2]
theorem bhm {ts:List (List Rat)} (p q:P2 ts) (z z2:Et ts) (h0:a4c p q z z2 = 0):(a37 p q z z2).ts.length = ts.length + (if (a37 p q z z2).ps.length = 2 then 1 else 0):=by
 unfold a4c bie at h0;unfold a37 bg2;split
 ·rename_i hd;rw [if_pos hd] at h0;split
  ·simp
  ·rename_i hz;split
   ·rename_i hp;rw [if_pos ⟨Decidable.not_not.1 hz,hp⟩] at h0; cases h0
   ·simp
 ·split
  ·simp
  ·split
   ·simp
   ·simp [adv]
theorem bgd {ts:List (List Rat)} (p q o:P2 ts) (z:Et ts) (h0:a36 p q = 0):(a39 p q o z).ts.length = ts.length + (if (a39 p q o z).ps.length = 2 then 1 else 0):=by
 unfold a36 at h0;unfold a39;split
 ·rename_i hd;rw [if_pos hd] at h0; cases h0
 ·split
  ·simp
  ·split
   ·simp
   ·simp [adv]
theorem bij {l:Li} {a:As} (D:DyR l a) (hn:(llq a.rs).length <= 1) {g:Gr} {i k z0 z1 z2:Int} {j0 j1 j2:Jt} (P:RrrP l a g i k z0 z1 z2 j0 j1 j2):∃ S:List Sv, (a4a l a i k j0 j1 j2).1 = S.map Sv.av /\ SolP S 1 (llq a.rs).length 2:=by
 have c:=D.al.ct D.hc;obtain ⟨tw,etw⟩:=ac5 D.al.tr D.hc;have hq0:=agk D.hl D.li P.h0 P.p0.or;have hq1:=agk D.hl D.li P.h1 P.p1.or;have hq2:=agk D.hl D.li P.h2 P.t1;have hq3:=agk D.hl D.li P.h2 P.t2;obtain ⟨y1,y2⟩:=aja D.hl D.li D.al D.hc P.h0 P.p0;obtain ⟨y3,y4⟩:=aja D.hl D.li D.al D.hc P.h1 P.p1;haveI:=c;haveI q1:=bja hq2 hq0;haveI q2:=bja hq3 hq1;have z1:Zu 4000 300000 (qE (sqQ (aca l j2 i) (aca l j0 i)):Et (llq a.rs)) 3 0:=inferInstance;have z2:Zu 4000 300000 (qE (sqQ (aca l j2 k) (aca l j1 k)):Et (llq a.rs)) 3 0:=inferInstance;unfold a4a
 by_cases h1:am0 [am7 (aca l j2 i) (aca l j0 i),am7 (aca l j2 k) (aca l j1 k)] = true
 ·rw [if_pos h1]; exact ⟨[],rfl,ah7 _ _ _⟩
 ·rw [if_neg h1];obtain ⟨w1,w2⟩:=az7 (Bool.eq_false_iff.2 h1)
  by_cases h2:a4c (aen l a j0 i) (aen l a j1 k) (qE (sqQ (aca l j2 i) (aca l j0 i))) (qE (sqQ (aca l j2 k) (aca l j1 k))) ≠ 0
  ·rw [if_pos h2]; exact ⟨[],rfl,ah7 _ _ _⟩
  ·rw [if_neg h2];have h3:=Decidable.not_not.1 h2;have ok:=a7s (x:=(aen l a j0 i).1) (y:=(aen l a j0 i).2) (x2:=(aen l a j1 k).1) (y2:=(aen l a j1 k).2) tw hn c y1 y2 z1 y3 y4 z2 h3;exact bmk ok (by simp) (fun x hx=>bgw (arp ok hx (y1.nm.mono (by decide)) (y2.nm.mono (by decide)) hq0 hq2 w1) (arp ok hx (y3.nm.mono (by decide)) (y4.nm.mono (by decide)) hq1 hq3 w2)) (by decide) (bhm _ _ _ _ h3)
theorem bm7 {l:Li} {a:As} (D:DyR l a) (hn:(llq a.rs).length <= 1) {g:Gr} {i z0 z1:Int} {j0 j:Jt} (P:SlP l a g 2 i z0 z1 j0 j) (ha:j.a = i) (hb:Pd a j.b):∃ S:List Sv, (prR l a i j0 j).1 = S.map Sv.av /\ SolP S 2 (llq a.rs).length 1:=by
 have c:=D.al.ct D.hc;obtain ⟨tw,etw⟩:=ac5 D.al.tr D.hc;obtain ⟨i1,i2,i3,i4,i5⟩:=ahj D.li P.h1;have hq2:Sm 1000 (mkQ l i j.point):=by rw [<- ha]; exact ara D.hl D.li i1 i3
 have hq0:=agk D.hl D.li P.h0 P.p0.or;obtain ⟨y1,y2⟩:=aja D.hl D.li D.al D.hc P.h0 P.p0;obtain ⟨y3,y4⟩:=anx D.hl D.li D.al D.hc i2 i4 hb;obtain ⟨y5,y6⟩:=anx D.hl D.li D.al D.hc i2 (i5 P.hk) hb;haveI:=c;haveI q1:=bja hq2 hq0;have z1:Zu 4000 300000 (qE (sqQ (mkQ l i j.point) (aca l j0 i)):Et (llq a.rs)) 3 0:=inferInstance;unfold prR
 by_cases h1:am0 [am7 (mkQ l i j.point) (aca l j0 i)] = true
 ·rw [if_pos h1]; exact ⟨[],rfl,ah7 _ _ _⟩
 ·rw [if_neg h1];have w1:=az0 (Bool.eq_false_iff.2 h1)
  by_cases h2:a36 (plE l a j.b j.on) (plE l a j.b j.to) ≠ 0
  ·rw [if_pos h2]; exact ⟨[],rfl,ah7 _ _ _⟩
  ·rw [if_neg h2];have h3:=Decidable.not_not.1 h2;have ok:=a4x (o:=aen l a j0 i) (p:=plE l a j.b j.on) (q:=plE l a j.b j.to) (z:=qE (sqQ (mkQ l i j.point) (aca l j0 i))) tw hn c y1 y2 y3 y4 y5 y6 z1 h3;exact bmk ok (by simp) (fun x hx=>a9z (arp ok hx (y1.nm.mono (by decide)) (y2.nm.mono (by decide)) hq0 hq2 w1)) (by decide) (bgd _ _ _ _ h3)
theorem bn0 {ts T:List (List Rat)} {R:Rp} {qs:List (List Rat)} (ct:Cy T 700000000 1000000000) (hl:qs.length <= 2) (h1:1 <= qs.length) (H:∀ q ∈ qs, RqP T R q) (lv:T.length = ts.length + (if qs.length = 2 then 1 else 0)):∃ S:List Sv, rqL T R qs qs.length = S.map Sv.av /\ SolP S 3 ts.length 1:=by
 refine ⟨(List.range qs.length).map (rqS T R qs),bes _ _,by simpa using hl,?_,?_⟩
 ·intro s hs2;obtain ⟨i,hi,rfl⟩:=List.mem_map.1 hs2;obtain ⟨x,hx⟩:=acj (List.mem_range.1 hi);obtain ⟨r,tw,_⟩:=ct.ex;refine ⟨⟨r,tw⟩,ct.two,?_,by simp [rqS]⟩;intro p hp;unfold rqS at hp;rw [aag hx] at hp;rw [List.mem_singleton.1 hp];exact (H x (mem_of_getElem? hx)).b.ok
 ·intro i s hi;have hin:i < qs.length:=by have:=(List.getElem?_eq_some_iff.1 hi).1; simpa using this
  have e:s = rqS T R qs i:=by simp [hin] at hi; exact hi.symm
  subst e;have hlen:((List.range qs.length).map (rqS T R qs)).length = qs.length:=by simp
  rw [hlen,if_neg (by decide)];refine ⟨?_,lv,by simp [rqS]⟩;show (if qs.length = 1 then 0 else 1 - 2 * (i:Int)) = _
  by_cases h2:qs.length = 2
  ·rw [if_neg (by omega),if_pos h2]
  ·rw [if_pos (by omega),if_neg h2]
theorem bj6 {l:Li} {a:As} (D:DyR l a) (hn:(llq a.rs).length <= 1) {g:Gr} {i z0 z1:Int} {j0 j:Jt} (P:SlP l a g 3 i z0 z1 j0 j) (hj:j.b = i) (hb:Pd a j.a):∃ S:List Sv, (rpR l a i j0 j).1 = S.map Sv.av /\ SolP S 3 (llq a.rs).length 1:=by
 obtain ⟨tw,etw⟩:=ac5 D.al.tr D.hc;have F:=bdn D hn P hj hb;unfold rpR
 by_cases h1:sgE (rpD l a i j0 j) = 0 /\ sgE (qE (rpH l i j0 j):Et (llq a.rs)) = 0
 ·rw [if_pos h1]; exact ⟨[],rfl,ah7 _ _ _⟩
 ·rw [if_neg h1]
  by_cases h2:sgE (rpX l a i j0 j) < 0
  ·rw [if_pos h2]; exact ⟨[],rfl,ah7 _ _ _⟩
  ·rw [if_neg h2];have hd0:sgE (rpD l a i j0 j) ≠ 0:=blu tw h2 h1
   by_cases h3:0 < sgE (rpX l a i j0 j)
   ·rw [if_pos h3];obtain ⟨E,R1,R2,_⟩:=a9s F tw hn hd0 (by omega);exact bn0 (ts:=llq a.rs) (qs:=[aei (llq a.rs).length,sX (-lnR (rpX l a i j0 j))]) E.cy (le_refl 2) (by show 1 <= 2; omega) (bgw R1 R2) (adv (llq a.rs) (sX (rpX l a i j0 j)))
   ·rw [if_neg h3];obtain ⟨cs,R0⟩:=a0n F tw hn hd0;exact bn0 (ts:=llq a.rs) (qs:=[[]]) cs (by show 1 <= 2; omega) (le_refl 1) (a9z R0) rfl
theorem bfq {l:Li} {a:As} (D:DyR l a) (hn:(llq a.rs).length <= 1) {i z0:Int} {j0:Jt} (h0:l.joints[z0.toNat]? = some j0) (p0:PinP l a j0 i) {x:Tn} (hq:Qb 1000 x.t.q):∃ S:List Sv, (a2t l a i j0 x).1 = S.map Sv.av /\ SolP S 0 (llq a.rs).length 1:=by
 obtain ⟨tw,etw⟩:=ac5 D.al.tr D.hc;unfold a2t
 by_cases he:x.err ≠ 0
 ·rw [if_pos he]; exact ⟨[],rfl,ah7 _ _ _⟩
 ·rw [if_neg he];refine ⟨[⟨llq a.rs,[bn9 l a i j0 x],1⟩],rfl,by simp,a9z ⟨⟨40000,tw⟩,by show (llq a.rs).length <= 2; omega,a9z (bd1 D hn h0 p0 hq).ok,by show 1 <= 2; omega⟩,?_⟩;intro n s hs
  match n,hs with
  | 0,hs=>cases hs; exact ⟨rfl,rfl,rfl⟩
theorem be2 {l:Li} {k:Int} {a:As} {n:Nat} {g:Gr} {x:Tn} (D:DyR l a) (hn:(llq a.rs).length <= 1) (ok:DyOk l k a false n g) (hq:Qb 1000 x.t.q):∃ S:List Sv, (avq l a g x).1 = S.map Sv.av /\ SolP S g.kind (llq a.rs).length g.bodies.length:=by
 unfold avq
 by_cases hk0:g.kind = 0
 ·obtain ⟨i, z0, d, j0, e, hj0, p0⟩:=a0p ok hk0;rw [if_pos hk0,e];show ∃ S:List Sv,(a2t l a i (l.joints.getD z0.toNat default) x).1 = _ /\ _;rw [aag hj0];exact bfq D hn hj0 p0 hq
 ·rw [if_neg hk0]
  by_cases hk1:g.kind = 1
  ·obtain ⟨i, k2, z0, z1, z2, j0, j1, j2, P⟩:=ok.rrr hk1;obtain ⟨e0,e1,e2,b0,b1,_⟩:=P.at;rw [if_pos hk1,e0,e1,e2,b0,b1,hk1,P.eq];exact bij D hn P
  ·rw [if_neg hk1]
   by_cases hk2:g.kind = 2
   ·obtain ⟨i, z0, z1, j0, j, P, ha, hb⟩:=ok.pr hk2;obtain ⟨e0,e1,b0,_⟩:=P.at;rw [if_pos hk2,e0,e1,b0,hk2,P.eq];exact bm7 D hn P ha hb
   ·obtain ⟨i, z0, z1, j0, j, P, _, hj, hb⟩:=ok.rp hk0 hk1 hk2;obtain ⟨e0,e1,b0,hk3⟩:=P.at;rw [if_neg hk2,e0,e1,b0,hk3,P.eq];exact bj6 D hn P hj hb
end Go.Lw
namespace Go.Lw
open Go.Proofs
theorem ayz {S:List Sv} (hS:∀ s ∈ S, SvOk s) (hl:S.length <= 2):FnC prog 13 [.lst 3 (S.map Sv.av), .lst 3 (S.map Sv.av)] (bl true):=by
 refine gF0 func13 ?_ (1,2)
 first | (refine go ?_; refine gl ?_ (1, 4); trace "@@linkwork/linkworkref26.Same 1.1 ajq") | (refine go ?_; refine ge rfl ?_ (1, 4); trace "@@linkwork/linkworkref26.Same 1.1 af0") | (refine go ?_ (1, 4); trace "@@linkwork/linkworkref26.Same 1.1 s_auto")
 first | (refine go ?_; refine gl ?_; trace "@@linkwork/linkworkref26.Same 1.3 ajq") | (refine go ?_; refine ge rfl ?_; trace "@@linkwork/linkworkref26.Same 1.3 af0") | (refine go ?_; trace "@@linkwork/linkworkref26.Same 1.3 s_auto")
 refine gC (fun ht13=>?_) (fun ht13=>?_) (st1:=(2,0)) (st2:=(3,2))
 ·exact absurd ht13 (by simp [aaa])
 ·first | (refine go ?_; refine gl ?_; trace "@@linkwork/linkworkref26.Same 3.1 ajq") | (refine go ?_; refine ge rfl ?_; trace "@@linkwork/linkworkref26.Same 3.1 af0") | (refine go ?_; trace "@@linkwork/linkworkref26.Same 3.1 s_auto")
  refine gL1 [0,1,14,15] [] (fun (i:Nat)=>[(16,some (i64 i))]) (fun _=>[]) (fun i=>i <= S.length) (fun i=>S.length - i) 0 (zero_le _) ?_;rintro i hi K1 hK1;refine gC (fun ht17=>?_) (fun ht17=>?_)
  ·have hin:=abv ht17;obtain ⟨s,hs⟩:=acj hin;have ok:=hS s (mem_of_getElem? hs);obtain ⟨r,tw⟩:=ok.tw;have hln:=ok.ln;refine gi (aai hs) ?_ (5,3)
   first | (refine gs (aae (.tmp rfl) rfl rfl T62 rfl rfl rfl) ?_ (5, 6); trace "@@linkwork/linkworkref26.Same 5.2 aae") | (refine go ?_ (5, 6); trace "@@linkwork/linkworkref26.Same 5.2 s_auto")
   first | (refine gs (aa2 (.tmp rfl) rfl rfl rfl (.tmp rfl) rfl rfl T62 rfl rfl) ?_; trace "@@linkwork/linkworkref26.Same 5.5 aa2") | (refine gs (aig (.tmp rfl) rfl rfl (.tmp rfl) rfl rfl T62 rfl rfl rfl) ?_; trace "@@linkwork/linkworkref26.Same 5.5 aig") | (refine go ?_; trace "@@linkwork/linkworkref26.Same 5.5 s_auto")
   refine gi (aai hs) ?_ (6,4)
   first | (refine gs (aae (.tmp rfl) rfl rfl T62 rfl rfl rfl) ?_ (6, 6); trace "@@linkwork/linkworkref26.Same 6.3 aae") | (refine go ?_ (6, 6); trace "@@linkwork/linkworkref26.Same 6.3 s_auto")
   first | (refine gs (aa2 (.tmp rfl) rfl rfl rfl (.tmp rfl) rfl rfl T62 rfl rfl) ?_ (7, 2); trace "@@linkwork/linkworkref26.Same 6.5 aa2") | (refine gs (aig (.tmp rfl) rfl rfl (.tmp rfl) rfl rfl T62 rfl rfl rfl) ?_ (7, 2); trace "@@linkwork/linkworkref26.Same 6.5 aig") | (refine go ?_ (7, 2); trace "@@linkwork/linkworkref26.Same 6.5 s_auto")
   first | (refine gs (aae (.tmp rfl) rfl rfl T3 rfl rfl rfl) ?_ (7, 4); trace "@@linkwork/linkworkref26.Same 7.1 aae") | (refine go ?_ (7, 4); trace "@@linkwork/linkworkref26.Same 7.1 s_auto")
   first | (refine gs (aae (.tmp rfl) rfl rfl T3 rfl rfl rfl) ?_ (7, 8); trace "@@linkwork/linkworkref26.Same 7.3 aae") | (refine go ?_ (7, 8); trace "@@linkwork/linkworkref26.Same 7.3 s_auto")
   first | (refine gs (abx rfl rfl rfl (fun h => aae (.opt rfl (o1 h)) rfl rfl T37 rfl rfl rfl)) ?_ (7, 9); trace "@@linkwork/linkworkref26.Same 7.7 aae") | (refine go ?_ (7, 9); trace "@@linkwork/linkworkref26.Same 7.7 s_auto")
   first | (refine go ?_; refine glG ?_ (7, 11); trace "@@linkwork/linkworkref26.Same 7.8 ajq") | (refine go ?_; refine geG (fun _ => rfl) ?_ (7, 11); trace "@@linkwork/linkworkref26.Same 7.8 af0") | (refine go ?_ (7, 11); trace "@@linkwork/linkworkref26.Same 7.8 s_auto")
   first | (refine gs (abx rfl rfl rfl (fun h => aae (.opt rfl (o1 h)) rfl rfl T37 rfl rfl rfl)) ?_ (7, 12); trace "@@linkwork/linkworkref26.Same 7.10 aae") | (refine go ?_ (7, 12); trace "@@linkwork/linkworkref26.Same 7.10 s_auto")
   first | (refine go ?_; refine glG ?_ (7, 17); trace "@@linkwork/linkworkref26.Same 7.11 ajq") | (refine go ?_; refine geG (fun _ => rfl) ?_ (7, 17); trace "@@linkwork/linkworkref26.Same 7.11 af0") | (refine go ?_ (7, 17); trace "@@linkwork/linkworkref26.Same 7.11 s_auto")
   first | (refine gs (abx rfl rfl rfl (fun h => aae (.opt rfl (o1 h)) rfl rfl T36 rfl rfl rfl)) ?_ (7, 19); trace "@@linkwork/linkworkref26.Same 7.16 aae") | (refine go ?_ (7, 19); trace "@@linkwork/linkworkref26.Same 7.16 s_auto")
   first | (refine gs (abx rfl rfl rfl (fun h => aae (.opt rfl (o1 h)) rfl rfl T36 rfl rfl rfl)) ?_; trace "@@linkwork/linkworkref26.Same 7.18 aae") | (refine go ?_; trace "@@linkwork/linkworkref26.Same 7.18 s_auto")
   refine gcG (fun _=>(ays tw)) ?_;refine gC (fun ht46=>?_) (fun ht46=>?_) (st1:=(8,0)) (st2:=(9,2))
   ·exact absurd ht46 (by simp [aaa])
   ·first | (refine gs (aae (.tmp rfl) rfl rfl T37 rfl rfl rfl) ?_ (9, 3); trace "@@linkwork/linkworkref26.Same 9.1 aae") | (refine go ?_ (9, 3); trace "@@linkwork/linkworkref26.Same 9.1 s_auto")
    first | (refine go ?_; refine gl ?_; trace "@@linkwork/linkworkref26.Same 9.2 ajq") | (refine go ?_; refine ge rfl ?_; trace "@@linkwork/linkworkref26.Same 9.2 af0") | (refine go ?_; trace "@@linkwork/linkworkref26.Same 9.2 s_auto")
    refine gL1 [0,1,14,15,16,6,7,49] [6,7] (fun (k:Nat)=>[(50,some (i64 k))]) (fun _=>[]) (fun k=>k <= s.ps.length) (fun k=>s.ps.length - k) 0 (zero_le _) ?_;rintro k hk K2 hK2;refine gC (fun ht51=>?_) (fun ht51=>?_) (st1:=(12,2))
    ·have hkn:=abv ht51;obtain ⟨p,hp⟩:=acj hkn
     first | (refine gs (aae (.tmp rfl) rfl rfl T36 rfl rfl rfl) ?_ (12, 4); trace "@@linkwork/linkworkref26.Same 12.1 aae") | (refine go ?_ (12, 4); trace "@@linkwork/linkworkref26.Same 12.1 s_auto")
     first | (refine gs (aae (.tmp rfl) rfl rfl T37 rfl rfl rfl) ?_; trace "@@linkwork/linkworkref26.Same 12.3 aae") | (refine go ?_; trace "@@linkwork/linkworkref26.Same 12.3 s_auto")
     refine gi (aai hp) ?_ (12,7)
     first | (refine gs (aae (.tmp rfl) rfl rfl T67 rfl rfl rfl) ?_ (12, 9); trace "@@linkwork/linkworkref26.Same 12.6 aae") | (refine go ?_ (12, 9); trace "@@linkwork/linkworkref26.Same 12.6 s_auto")
     first | (refine gs (aae (.tmp rfl) rfl rfl T37 rfl rfl rfl) ?_; trace "@@linkwork/linkworkref26.Same 12.8 aae") | (refine go ?_; trace "@@linkwork/linkworkref26.Same 12.8 s_auto")
     refine gi (aai hp) ?_ (12,12)
     first | (refine gs (aae (.tmp rfl) rfl rfl T67 rfl rfl rfl) ?_; trace "@@linkwork/linkworkref26.Same 12.11 aae") | (refine go ?_; trace "@@linkwork/linkworkref26.Same 12.11 s_auto")
     refine gc (bh8 tw ok.two (ok.ps p (mem_of_getElem? hp))) ?_;refine gD ?_;refine gC (fun ht66=>?_) (fun ht66=>?_) (st1:=(13,0))
     ·cases ht66
     ·refine ga aa0 ?_;exact gK1 hK2 (k + 1) hkn
    ·refine ga aa0 ?_;exact gK1 hK1 (i + 1) hin
  ·refine gE1 ?_;rfl
end Go.Lw
namespace Go.Lw
def zP:Pl:=⟨[rt ((7:Int):Rat)],[],[⟨false,[],[]⟩,⟨false,[],[]⟩,⟨false,[],[]⟩],[]⟩
def ay4 (bs:List Pl) (ids:List Int):List Pl:=ids.foldl (fun bs b=>bs.set b.toNat zP) bs
theorem a70 (bs:List Pl) (ids:List Int) (b:Int):ay4 bs (ids ++ [b]) = (ay4 bs ids).set b.toNat zP:=by
 unfold ay4; rw [List.foldl_append]; rfl
theorem alk:∀ (ids:List Int) (bs:List Pl), (ay4 bs ids).length = bs.length
 | [],bs=>rfl
 | b :: ids, bs=>by
  show (ay4 (bs.set b.toNat zP) ids).length = _;rw [alk ids,length_set]
theorem a0u:∀ (ids:List Int) (bs:List Pl), (∀ b ∈ ids, 0 <= b) -> ∀ n:Nat, (n:Int) ∉ ids -> (ay4 bs ids).getD n default = bs.getD n default
 | [],bs,_,n,_=>rfl
 | b :: ids, bs, h, n, hn=>by
  show (ay4 (bs.set b.toNat zP) ids).getD n default = _;have h0:=h b (mem_cons_self ..);have hb:b.toNat ≠ n:=fun e=>hn (by rw [<- e,show ((b.toNat:Nat):Int) = b by omega]; exact mem_cons_self ..)
  rw [a0u ids _ (fun x hx=>h x (mem_cons_of_mem _ hx)) n (fun hm=>hn (mem_cons_of_mem _ hm)),getD_eq_getElem?_getD,List.getElem?_set_ne hb,<- getD_eq_getElem?_getD]
theorem a1k:∀ (ids:List Int) (bs:List Pl), ∀ p ∈ ay4 bs ids, p ∈ bs \/ p = zP
 | [],bs,p,hp=>.inl hp
 | b :: ids, bs, p, hp=>by
  rcases a1k ids (bs.set b.toNat zP) p hp with h | h
  ·rcases List.mem_or_eq_of_mem_set h with h | h
   ·exact .inl h
   ·exact .inr h
  ·exact .inr h
section
variable {l:Li} {a:As} {bs:List Pl} {ms:List Int} {g:Gr}
theorem baf (H:∀ n:Nat, (n:Int) ∉ g.bodies -> bs.getD n default = a.bs.getD n default) {b:Int} (b0:0 <= b) (hb:b ∉ g.bodies) (pt:Int):plE l ⟨a.rs, bs, ms⟩ b pt = plE l a b pt:=by
 have h:=H b.toNat (by rw [show ((b.toNat:Nat):Int) = b by omega]; exact hb);show atP (llq a.rs) (bs.getD b.toNat default) _ = atP (llq a.rs) (a.bs.getD b.toNat default) _;rw [h]
theorem au5 (hli:liE l = 0) (H:∀ n:Nat, (n:Int) ∉ g.bodies -> bs.getD n default = a.bs.getD n default) {kd z i:Int} {j:Jt} (t:TieO l kd g.bodies z i j) (hi:i ∈ g.bodies):aen l ⟨a.rs, bs, ms⟩ j i = aen l a j i:=by
 obtain ⟨i1,i2,_⟩:=ahj hli t.hj;have i1:=afy i1;have i2:=afy i2;unfold aen
 by_cases e:j.a = i
 ·rw [if_pos e, if_pos e];refine baf H i2.1 ?_ _;rcases t.tie with h9 | h9
  ·exact h9.2
  ·exact absurd (e ▸ hi:j.a ∈ g.bodies) h9.2
 ·rw [if_neg e, if_neg e];refine baf H i1.1 ?_ _;rcases t.tie with h9 | h9
  ·exact absurd h9.1 e
  ·exact h9.2
theorem bme (hli:liE l = 0) (dy:DyK l g) (H:∀ n:Nat, (n:Int) ∉ g.bodies -> bs.getD n default = a.bs.getD n default) (x:Tn):avq l ⟨a.rs, bs, ms⟩ g x = avq l a g x:=by
 cases dy with
 | @drv b z d j x0 t d0 hd hb =>
  have h:=au5 (ms:=ms) hli H t (by simp);have e:l.joints.getD z.toNat default = j:=aag t.hj;show a2t l ⟨a.rs,bs,ms⟩ b (l.joints.getD z.toNat default) x = a2t l a b (l.joints.getD z.toNat default) x;rw [e];unfold a2t bn9;rw [h]
 | @rrr i k z0 z1 z2 j0 j1 j2 ne t0 t1 h0 h2 kd tie =>
  have e0:l.joints.getD z0.toNat default = j0:=aag t0.hj;have e1:l.joints.getD z1.toNat default = j1:=aag t1.hj;have e2:l.joints.getD z2.toNat default = j2:=aag h2;have g0:=au5 (ms:=ms) hli H t0 (by simp);have g1:=au5 (ms:=ms) hli H t1 (by simp);show a4a l ⟨a.rs,bs,ms⟩ i k (l.joints.getD z0.toNat default) (l.joints.getD z1.toNat default) (l.joints.getD z2.toNat default) = a4a l a i k (l.joints.getD z0.toNat default) (l.joints.getD z1.toNat default) (l.joints.getD z2.toNat default);rw [e0,e1,e2];unfold a4a;rw [g0,g1]
 | @pr i z0 z1 j0 j1 t0 t1 ha =>
  have e0:l.joints.getD z0.toNat default = j0:=aag t0.hj;have e1:l.joints.getD z1.toNat default = j1:=aag t1.hj;have g0:=au5 (ms:=ms) hli H t0 (by simp);obtain ⟨i1,i2,_⟩:=ahj hli t1.hj
  have hb:j1.b ∉ [i]:=by
   rcases t1.tie with h9 | h9
   ·exact h9.2
   ·exact absurd (by rw [ha]; simp) h9.2
  have g1:=fun pt=>baf (l:=l) (ms:=ms) H (afy i2).1 hb pt
  show prR l ⟨a.rs,bs,ms⟩ i (l.joints.getD z0.toNat default) (l.joints.getD z1.toNat default) = prR l a i (l.joints.getD z0.toNat default) (l.joints.getD z1.toNat default);rw [e0,e1];unfold prR;rw [g0,g1,g1]
 | @rp i z0 z1 j0 j1 t0 t1 ha =>
  have e0:l.joints.getD z0.toNat default = j0:=aag t0.hj;have e1:l.joints.getD z1.toNat default = j1:=aag t1.hj;have g0:=au5 (ms:=ms) hli H t0 (by simp);obtain ⟨i1,i2,_⟩:=ahj hli t1.hj;have g1:=fun pt=>baf (l:=l) (ms:=ms) H (afy i1).1 (by simpa using ha:j1.a ∉ [i]) pt
  show rpR l ⟨a.rs,bs,ms⟩ i (l.joints.getD z0.toNat default) (l.joints.getD z1.toNat default) = rpR l a i (l.joints.getD z0.toNat default) (l.joints.getD z1.toNat default);rw [e0,e1];unfold rpR rpX rpP rpD rpW;rw [g0,g1]
theorem bff (g:Gr) (j:Jt):anc g j < 0 \/ anc g j ∉ g.bodies:=by
 unfold anc
 by_cases h1:g.bodies.contains j.a = true
 ·rw [if_pos h1]
  by_cases h2:g.bodies.contains j.b = true
  ·rw [if_pos h2]; exact .inl (by omega)
  ·rw [if_neg h2]; exact .inr (fun h=>h2 (List.contains_iff_mem.2 h))
 ·rw [if_neg h1]; exact .inr (fun h=>h1 (List.contains_iff_mem.2 h))
theorem bop {k:Int} (hl:bs.length = a.bs.length) (H:∀ n:Nat, (n:Int) ∉ (gAt l k).bodies -> bs.getD n default = a.bs.getD n default):dyE l k ⟨a.rs, bs, ms⟩ false = dyE l k a false:=by
 have hm:(ank (ndL l (gAt l k) false)).map (ndE ⟨a.rs, bs, ms⟩) = (ank (ndL l (gAt l k) false)).map (ndE a):=by
  refine List.map_congr_left fun b hb=>?_
  have hb:=axi.1 hb;unfold ndL arf at hb;rw [if_neg (by decide),List.append_nil] at hb;obtain ⟨z,_,rfl⟩:=List.mem_map.1 hb;unfold ndE;rcases bff (gAt l k) (l.joints.getD z.toNat default) with h | h
  ·rw [if_pos h,if_pos h]
  ·by_cases h0:anc (gAt l k) (l.joints.getD z.toNat default) < 0
   ·rw [if_pos h0,if_pos h0]
   ·rw [if_neg h0, if_neg h0];have e:=H (anc (gAt l k) (l.joints.getD z.toNat default)).toNat (by rw [show (((anc (gAt l k) (l.joints.getD z.toNat default)).toNat:Nat):Int) = anc (gAt l k) (l.joints.getD z.toNat default) by omega]; exact h);show acb a.rs (bs.getD _ default).l = _;rw [e]
 unfold dyE a2c;rw [hm];show (if liE l ≠ 0 then liE l else if adn l ≠ 0 then adn l else if k < 0 \/ ((adl l).length:Int) <= k then 9 else if bs.length ≠ l.bodies.length then 10 else _) = _;rw [hl]
theorem bj5 {k:Int} {x:Tn} (h0:dyE l k a false = 0) (hl:bs.length = a.bs.length) (H:∀ n:Nat, (n:Int) ∉ (gAt l k).bodies -> bs.getD n default = a.bs.getD n default):a38 l k x ⟨a.rs, bs, ms⟩ = a38 l k x a:=by
 obtain ⟨n,g,ok⟩:=bhc h0;have hgA:gAt l k = g:=by unfold gAt; rw [ok.hk,toNat_natCast]; exact aag ok.hg
 unfold a38;rw [bop hl H,h0,if_pos rfl,if_pos rfl];rw [hgA] at H ⊢;exact bme ok.li ok.dy H x
end
end Go.Lw
namespace Go.Lw
variable {P:Program} {N:Nat} {R:Array Oper} {s:AS}
theorem a8h {o:Oper} {d sz n:Nat} {es:List AV} {rt rd:List Nat} (hd:o.dst = some d) (hn:n = es.length) (hdr:d ∉ rd)
  (h:Step P N R s o ⟨some (.ms d sz 0 n),[(d,some (.row sz es))],rt,rd⟩):Step P N R s o ⟨some (.lst sz es),[(d,none)],rt,rd⟩:=by
 refine ⟨fun s' hag hnew C m a w Q next hC hr hnext=>?_⟩
 have hfr:s'.Fresh d:=by
  rcases hnew d (by simp) with h | h
  ·exact absurd h hdr
  ·exact h
 refine h.run s' hag hnew C m a w Q next hC hr (fun m' a' w' hr'=>?_);rw [hd] at hr'
 have hk:(s'.app (some d) ⟨some (.ms d sz 0 n), [(d, some (.row sz es))], rt, rd⟩).blk d = some (.row sz es):=by
  simp [AS.blk,AS.app,aab]
 obtain ⟨m2,hr2⟩:=Wk.freeze hk C m' a' w' hr';refine hnext m2 a' w' ?_;rw [hd];refine hr2.congr ?_ ?_
 ·intro t;simp only [AS.get,agu,AS.app,aab];split
  ·subst hn;have e1:Nat.beq d d = true:=Nat.beq_refl d;have e2:Nat.beq sz sz = true:=Nat.beq_refl sz;have e3:Nat.ble (0 + es.length) es.length = true:=Nat.ble_eq_true_of_le (by omega);simp only [Option.map_some,AV.fz,e1,e2,e3,Bool.and_self,drop_zero,take_length]
  ·cases hx:lk s'.sl t with
   | none=>rfl
   | some x=>simp only [Option.map_some]; rw [AV.fz_id _ _ _ _ (hfr.2.2.1 t x hx)]
 ·intro k';simp only [AS.blk,aew,AS.app,cons_append,nil_append,aab]
  by_cases h1:k' = d
  ·rw [if_pos h1,if_pos h1]
  ·rw [if_neg h1, if_neg h1, if_neg h1];cases hx:lk s'.hp k' with
   | none=>rfl
   | some x=>simp only [Option.map_some]; rw [am9 (hfr.2.2.2 k' x hx)]
theorem bh1 {d:Nat} {x:Operand} {n:Int} {T E t:TypeId} {ti te:TI} {pos:String} {after:Array Edge} (hx:Ev s x (.v (.int .i64 n)))
  (hT:aak P T = some ti) (hk:ti.k = .slice E) (hE:aak P E = some te) (hz:te.zero.all Value.oneCell' = true)
  (hz0:(Nat.beq te.zero.length te.size && Nat.blt 0 te.size && Nat.blt 0 te.bytes && (te.ag || Nat.beq te.size 1)) = true)
  (h0:0 <= n) (hb:n * te.bytes <= 281474976710656) (hN:Nat.blt d N = true) :
  Step P N R s ⟨some d, .makeSlice T x x, t, pos, after, none⟩
   ⟨some (.lst te.size (List.replicate n.toNat (mkT te.ag (te.zero.map .v)))),[(d,none)],aan x,[]⟩ :=
 a8h rfl (by rw [length_replicate]) (by simp) (afq hx hT hk hE hz hz0 h0 hb hN)
end Go.Lw
namespace Go.Lw
open Go.Proofs
end Go.Lw
namespace Go.Lw
open Go.Proofs
theorem ak8 (rs xs:List (List Rt)) (w m:Nat) (hrs:aqe rs) (hxs:aqe xs) (hrl:rs.length <= 100) (hxl:xs.length <= 100):FnC prog 22 [aj2 rs, i64 w, i64 m, .lst 1 (xs.map nR)] (bl (akf w m (rs ++ xs))):=by
 obtain ⟨l,hl⟩:∃ l,l = rs ++ xs:=⟨_,rfl⟩
 have hlo:aqe l:=by rw [hl]; exact hrs.app hxs
 have hll:l.length <= 200:=by rw [hl,length_append]; omega
 have hml:rs.map nR ++ xs.map nR = l.map nR:=by rw [hl,map_append]
 rw [<- hl];refine gF0 func22 ?_;refine gs (acp T34 rfl T46 rfl rfl rfl) ?_;refine gs (aa5 (.tmp rfl) rfl rfl (.tmp rfl) T34 rfl T46 rfl rfl (by simp only [length_map]; omega) rfl rfl) ?_;refine gs (age (.tmp rfl) rfl (by simp) (.tmp rfl) T34 rfl T46 rfl rfl (by simp only [length_map]; omega) rfl rfl) ?_;refine ge rfl ?_;refine gL1 [1,2] [] (fun (i:Nat)=>[(18,some (.lst 1 (l.map nR))),(19,some (i64 l.length)),(20,some (i64 i))]) (fun _=>[]) (fun i=>i <= l.length /\ (l.take i).all (alj w m) = true) (fun i=>l.length - i) 0 ⟨zero_le _,rfl⟩ ?_ (h1:=(.cons rfl (Sub.of (congrArg (AV.lst 1) hml)) (.cons rfl (Sub.int (by rw [nil_append,hml,length_map])) (.k .nil))));rintro i ⟨hi,hj⟩ K1 hK1;refine gC (fun ht21=>?_) (fun ht21=>?_)
 ·have hin:=abv ht21;obtain ⟨x,hx⟩:=acj hin;have hxo:=hlo x (mem_of_getElem? hx);have hxl:=hxo.2;refine gi (aai hx) ?_;refine gl ?_;refine gC (fun ht27=>?_) (fun ht27=>?_)
  ·have h1:=asy ht27;refine gE1 ?_;rw [akf,aht hx (by unfold alj; rw [decide_eq_false (by omega)]; rfl)]; rfl
  ·have h1:x.length <= m:=av2 ht27;refine gl ?_;refine gL1 [1,2,18,19,20,28,29] [] (fun (k:Nat)=>[(30,some (i64 k))]) (fun _=>[]) (fun k=>k <= x.length /\ (x.take k).all (fun r=>decide (r.num.length <= w /\ r.den.length <= w)) = true) (fun k=>x.length - k) 0 ⟨zero_le _,rfl⟩ ?_;rintro k ⟨hk,hkj⟩ K2 hK2;refine gC (fun ht31=>?_) (fun ht31=>?_)
   ·have hkn:=abv ht31;obtain ⟨r,hr⟩:=acj hkn;refine gi (aai hr) ?_;refine gl ?_;refine glG ?_;refine gC (fun ht45=>?_) (fun ht45=>?_)
    ·have h2:¬ (r.num.length <= w /\ r.den.length <= w):=bjc ht45;refine gE1 ?_;rw [akf,aht hx (by unfold alj; rw [aht hr (decide_eq_false h2),Bool.and_false])]; rfl
    ·have h2:r.num.length <= w /\ r.den.length <= w:=bla ht45;refine ga aa0 ?_;exact gK1 hK2 (k + 1) ⟨hkn,ale hkj hr (decide_eq_true h2)⟩
   ·have hkn:=aau hk ht31;refine ga aa0 ?_;exact gK1 hK1 (i + 1) ⟨hin,ale hj hx (by unfold alj; rw [decide_eq_true h1,aop hkn hkj]; rfl)⟩
 ·have hin:=aau hi ht21;refine gE1 ?_;rw [akf,aop hin hj]; rfl
theorem aku (rs xs:List (List Rt)) (hrs:aqe rs) (hxs:aqe xs) (hrl:rs.length <= 281474976710656) (hxl:xs.length <= 100):FnC prog 8 [aj2 rs, .lst 1 (xs.map nR)] (bl (af8 rs xs)):=by
 refine gF0 func8 ?_;refine gl ?_;refine gC (fun ht9=>?_) (fun ht9=>?_)
 ·have h1:rs.length <= 1 \/ (5 < rs.length /\ rs.length <= 8):=bor ht9;refine gc (ak8 rs xs 3 40 hrs hxs (by omega) hxl) ?_;refine gE1 ?_;unfold af8; rw [if_pos h1]
 ·have h1:¬ (rs.length <= 1 \/ (5 < rs.length /\ rs.length <= 8)):=bqu ht9;refine gC (fun ht23=>?_) (fun ht23=>?_)
  ·have h2 : rs.length = 2 := by have := aeq ht23; omega
   refine gc (ak8 rs xs 1 40 hrs hxs (by omega) hxl) ?_;refine gE1 ?_;unfold af8; rw [if_neg h1,if_pos h2]
  ·have h2 : ¬ rs.length = 2 := by have := afw ht23; omega
   refine gC (fun ht29=>?_) (fun ht29=>?_)
   ·have h3 : rs.length = 3 := by have := aeq ht29; omega
    refine gc (ak8 rs xs 1 4 hrs hxs (by omega) hxl) ?_;refine gE1 ?_;unfold af8; rw [if_neg h1,if_neg h2,if_pos h3]
   ·have h3 : ¬ rs.length = 3 := by have := afw ht29; omega
    refine gE1 ?_;unfold af8; rw [if_neg h1,if_neg h2,if_neg h3]; rfl
theorem ax3 (l:Li) (hl:l.okw):FnC prog 6 [l.av] (bl (liB l)):=by
 have hbl:=hl.lb;refine gF0 func6 ?_;refine gl ?_;refine gL1 [1,8,9] [1] (fun (i:Nat)=>[(10,some (i64 i))]) (fun _=>[]) (fun i=>i <= l.bodies.length /\ (l.bodies.take i).all bdB = true) (fun i=>l.bodies.length - i) 0 ⟨zero_le _,rfl⟩ ?_;rintro i ⟨hi,hj⟩ K1 hK1;refine gC (fun ht11=>?_) (fun ht11=>?_)
 ·have hin:=abv ht11;obtain ⟨b,hb⟩:=acj hin;refine gi (aai hb) ?_;refine gl ?_;refine gC (fun ht17=>?_) (fun ht17=>?_)
  ·have h1:30 < b.pts.length:=asy ht17;refine gE1 ?_;unfold liB; rw [aht hb (by unfold bdB; rw [decide_eq_false (by omega)]; rfl)]; rfl
  ·have h1:b.pts.length <= 30:=av2 ht17;refine gl ?_;refine gL1 [1,8,9,10,19,20] [1] (fun (k:Nat)=>[(21,some (i64 k))]) (fun _=>[]) (fun k=>k <= b.pts.length /\ (b.pts.take k).all mkB = true) (fun k=>b.pts.length - k) 0 ⟨zero_le _,rfl⟩ ?_;rintro k ⟨hk,hkj⟩ K2 hK2;refine gC (fun ht22=>?_) (fun ht22=>?_)
   ·have hkn:=abv ht22;obtain ⟨p,hp⟩:=acj hkn;refine gi (aai hp) ?_;refine gl ?_;refine glG ?_;refine glG ?_;refine glG ?_;refine gC (fun ht50=>?_) (fun ht50=>?_)
    ·have h2:mkB p = false:=bmp ht50;refine gE1 ?_;unfold liB; rw [aht hb (by unfold bdB; rw [aht hp h2,Bool.and_false])]; rfl
    ·have h2:mkB p = true:=bn2 ht50;refine ga aa0 ?_;exact gK1 hK2 (k + 1) ⟨hkn,ale hkj hp h2⟩
   ·have hkn:=aau hk ht22;refine ga aa0 ?_;exact gK1 hK1 (i + 1) ⟨hin,ale hj hb (by unfold bdB; rw [decide_eq_true h1,aop hkn hkj]; rfl)⟩
 ·have hin:=aau hi ht11;refine gl ?_;refine glG ?_;refine glG ?_;refine gE1 ?_;exact congrArg bl (bh0 (aop hin hj))
end Go.Lw
namespace Go.Lw
open Go.Proofs
end Go.Lw
namespace Go.Lw
open Go.Proofs
end Go.Lw
namespace Go.Lw
open Go.Proofs
end Go.Lw
namespace Go.Lw
open Go.Proofs
end Go.Lw
namespace Go.Lw
open Go.Proofs
abbrev nl:AV:=.v (.slice none 0 0)
section
variable {ts:List (List Rat)} {a b a2 b2:List Rat} {x y x2 y2:Et ts}
end
end Go.Lw
namespace Go.Lw
open Go.Proofs
section
variable {ts:List (List Rat)} {a b c a2 b2 c2:List Rat} {x y z x2 y2 z2:Et ts}
end
theorem DyOk.drv {l:Li} {k:Int} {a:As} {own:Bool} {n:Nat} {g:Gr} (h:DyOk l k a own n g) (hk:g.kind = 0):∃ i z0 d j0, g = ⟨0, [i], [z0], d⟩ /\ l.joints[z0.toNat]? = some j0 /\ PinP l a j0 i:=by
 have hd:=h.dy;cases hd with
 | rrr _ _ _ _ _ _ _=>exact absurd hk (by simp)
 | pr _ _ _=>exact absurd hk (by simp)
 | rp _ _ _=>exact absurd hk (by simp)
 | @drv b z d j x t d0 hd hb=>exact ⟨b,z,d,j,rfl,t.hj,h.pin rfl t (by simp) (by simp)⟩
end Go.Lw
namespace Go.Lw
open Go.Proofs
theorem aw0 (a:As) (ha:a.ok):FnC prog 7 [a.av] (bl (bec a)):=by
 have hbl:=ha.bl;refine gF0 func7 ?_;refine gl ?_;refine gL1 [1,6,7] [1] (fun (i:Nat)=>[(8,some (i64 i))]) (fun _=>[]) (fun i=>i <= a.bs.length /\ (a.bs.take i).all (fun b=>af8 a.rs b.l) = true) (fun i=>a.bs.length - i) 0 ⟨zero_le _,rfl⟩ ?_;rintro i ⟨hi,hj⟩ K1 hK1;refine gC (fun ht9=>?_) (fun ht9=>?_)
 ·have hin:=abv ht9;obtain ⟨b,hb⟩:=acj hin;have hbo:=ha.bs b (mem_of_getElem? hb);refine gi (aai hb) ?_;refine gc (aku a.rs b.l ha.rs hbo ha.rl (by show 4 <= 100; omega)) ?_;refine gC (fun ht24=>?_) (fun ht24=>?_)
  ·have h1:=ahu ht24;refine gE1 ?_;unfold bec; rw [aht hb h1]; rfl
  ·have h1:=ahv ht24;refine ga aa0 ?_;exact gK1 hK1 (i + 1) ⟨hin,ale hj hb h1⟩
 ·have hin:=aau hi ht9;refine gl ?_;refine gcG (fun _=>(Con.subA (.cons (.refl _) (.cons (Sub.nil 1 none 0) .nil)) (aku a.rs [] ha.rs a61 ha.rl (by show 0 <= 100; omega)))) ?_;refine glG ?_;refine glG ?_;refine gE1 ?_;exact congrArg bl (bh2 (aop hin hj))
end Go.Lw
namespace Go.Lw
variable {P:Program} {N:Nat}
def rdC (s:AS):Operand -> Option AV
  | .tmp t=>match s.get t with
    | some x=>match x with
      | .opt _ _=>none
      | x=>some x
    | none=>none
  | .const c=>some (.v c)
  | .func f=>some (.v (.func (.func f) #[] #[]))
  | .global _=>none
theorem abh {s:AS} {o:Operand} {x:AV} (h:rdC s o = some x):Ev s o x:=by
 cases o with
 | tmp t =>
  simp only [rdC] at h;split at h
  ·rename_i y hy;split at h
   ·cases h
   ·cases h; exact .tmp hy
  ·cases h
 | const c=>cases h; exact .const c
 | func f=>cases h; exact .func f
 | global n=>cases h
def bi3 (s:AS):List Operand -> Option (List AV)
  | []=>some []
  | o :: os=>match rdC s o with
    | some x=>match bi3 s os with
      | some xs=>some (x :: xs)
      | none=>none
    | none=>none
theorem amk {s:AS}:∀ {os:List Operand} {xs:List AV}, bi3 s os = some xs -> EvL s os xs
 | [],xs,h=>by cases h; exact .nil
 | o :: os, xs, h=>by
  unfold bi3 at h;split at h
  ·rename_i x h1;split at h
   ·rename_i ys h2; cases h; exact .cons (abh h1) (amk h2)
   ·cases h
  ·cases h
def wN {α:Type} (n:Nat) (f:Nat -> α):α:=match n with
  | 0=>f 0
  | m + 1=>f (m + 1)
theorem auk {α:Type} (n:Nat) (f:Nat -> α):wN n f = f n:=by cases n <;> rfl
def wI {α:Type} (z:Int) (f:Int -> α):α:=match z with
  | .ofNat n=>match n with
    | 0=>f 0
    | m + 1=>f (Int.ofNat (m + 1))
  | .negSucc n=>f (.negSucc n)
theorem ash {α:Type} (z:Int) (f:Int -> α):wI z f = f z:=by
 cases z with
 | ofNat n=>cases n <;> rfl
 | negSucc n=>rfl
structure V1 where
  x:AV
  rt:List Nat
  rd:List Nat
def bee:Value -> Bool
  | .nilIface=>true
  | .iface _ _=>true
  | _=>false
theorem auo {v:Value} (h:bee v = true):bfu v:=by
 cases v <;> first | exact .inl rfl | exact .inr ⟨_,_,rfl⟩ | cases h
def bf2:BinOp -> Bool
  | .and | .or | .xor | .andNot=>true
  | _=>false
theorem ba2:∀ {op:BinOp},bf2 op = true -> (match op with | .and | .or | .xor | .andNot=>true | _=>false) = true:=by intro op; cases op <;> intro h <;> first | rfl | cases h
def bi4 (op:BinOp) (x y:Operand) (k k':IntKind) (a b:Int):Option V1:=match op with
  | .add | .sub | .mul=>match Nat.beq (ikn k) (ikn k') with
    | true=>wI (k.wrap (aed op a b)) fun z=>some ⟨.v (.int k z),aan x ++ aan y,[]⟩
    | false=>none
  | .quo=>match Nat.beq (ikn k) (ikn k') with
    | true=>match b with
      | .ofNat 0=>none
      | b=>wI (k.wrap (a.tdiv b)) fun z=>some ⟨.v (.int k z),aan x ++ aan y,[]⟩
    | false=>none
  | .rem=>match Nat.beq (ikn k) (ikn k') with
    | true=>match b with
      | .ofNat 0=>none
      | b=>wI (a.tmod b) fun z=>some ⟨.v (.int k z),aan x ++ aan y,[]⟩
    | false=>none
  | .shl=>match b with
    | .ofNat n=>wI (k.wrap (a * 2 ^ (min n k.bits))) fun z=>some ⟨.v (.int k z),aan x ++ aan y,[]⟩
    | .negSucc _=>none
  | .shr=>match b with
    | .ofNat n=>wI (a.fdiv (2 ^ (min n k.bits))) fun z=>some ⟨.v (.int k z),aan x ++ aan y,[]⟩
    | .negSucc _=>none
  | .eql | .neq | .lss | .leq | .gtr | .geq=>match Nat.beq (ikn k) (ikn k') with
    | true=>match aaa op a b with
      | true=>some ⟨.v (.bool true),aan x ++ aan y,[]⟩
      | false=>some ⟨.v (.bool false),aan x ++ aan y,[]⟩
    | false=>none
  | op=>match bf2 op && Nat.beq (ikn k) (ikn k') with
    | true=>wI (asf op k a b) fun z=>some ⟨.v (.int k z),aan x ++ aan y,[]⟩
    | false=>none
section
variable {s:AS} {R:Array Oper} {d:Nat} {t T:TypeId} {pos:String} {after:Array Edge}
theorem bip {op:BinOp} {x y:Operand} {k k':IntKind} {a b:Int} {S:TypeId} {r:V1} (hx:Ev s x (.v (.int k a))) (hy:Ev s y (.v (.int k' b))) (h:bi4 op x y k k' a b = some r) (hN:Nat.blt d N = true) :
  Step P N R s ⟨some d,.binOp op S x y T,t,pos,after,none⟩ ⟨some r.x,[],r.rt,r.rd⟩:=by
 have hc:∀ (op:BinOp), bb5 op = true -> (match Nat.beq (ikn k) (ikn k') with
  | true=>match aaa op a b with
   | true=>some (⟨.v (.bool true),aan x ++ aan y,[]⟩:V1)
   | false=>some ⟨.v (.bool false),aan x ++ aan y,[]⟩
  | false=>none) = some r -> Step P N R s ⟨some d,.binOp op S x y T,t,pos,after,none⟩ ⟨some r.x,[],r.rt,r.rd⟩:=by
  intro op hop h';split at h'
  ·rename_i hk;cases aia hk;have:=bnt (P:=P) (R:=R) (op:=op) (S:=S) (T:=T) (t:=t) (pos:=pos) (after:=after) hx hy (by cases op <;> simp_all [bb5]) hN;split at h'
   ·rename_i hb; cases h'; rw [hb] at this; exact this
   ·rename_i hb; cases h'; rw [hb] at this; exact this
  ·cases h'
 have ha:∀ (op:BinOp), boq op = true -> (match Nat.beq (ikn k) (ikn k') with
  | true=>wI (k.wrap (aed op a b)) fun z=>some (⟨.v (.int k z),aan x ++ aan y,[]⟩:V1)
  | false=>none) = some r -> Step P N R s ⟨some d,.binOp op S x y T,t,pos,after,none⟩ ⟨some r.x,[],r.rt,r.rd⟩:=by
  intro op hop h';split at h'
  ·rename_i hk;cases aia hk;rw [ash] at h';cases h';exact a5j hx hy (a8c hop) hN
  ·cases h'
 have hb:∀ (op:BinOp), (match bf2 op && Nat.beq (ikn k) (ikn k') with
  | true=>wI (asf op k a b) fun z=>some (⟨.v (.int k z),aan x ++ aan y,[]⟩:V1)
  | false=>none) = some r -> Step P N R s ⟨some d,.binOp op S x y T,t,pos,after,none⟩ ⟨some r.x,[],r.rt,r.rd⟩:=by
  intro op h';split at h'
  ·rename_i hk;simp only [and_eq_true] at hk;cases aia hk.2;rw [ash] at h';cases h';exact ber hx hy (ba2 hk.1) hN
  ·cases h'
 cases op with
 | add=>exact ha _ rfl h
 | sub=>exact ha _ rfl h
 | mul=>exact ha _ rfl h
 | quo =>
  simp only [bi4] at h;split at h
  ·rename_i hk;cases aia hk;split at h
   ·cases h
   ·rename_i hb0;rw [ash] at h; cases h
    exact bky hx hy (fun e=>hb0 (by rw [e]; rfl)) hN
  ·cases h
 | rem =>
  simp only [bi4] at h;split at h
  ·rename_i hk;cases aia hk;split at h
   ·cases h
   ·rename_i hb0;rw [ash] at h; cases h
    exact bjv hx hy (fun e=>hb0 (by rw [e]; rfl)) hN
  ·cases h
 | shl =>
  simp only [bi4] at h;split at h
  ·rename_i n;rw [ash] at h;obtain rfl:=Option.some.inj h;have:=blv (P:=P) (R:=R) (S:=S) (T:=T) (t:=t) (pos:=pos) (after:=after) hx hy (Int.natCast_nonneg n) hN;simp only [Int.ofNat_eq_natCast,toNat_natCast] at this;exact this
  ·cases h
 | shr =>
  simp only [bi4] at h;split at h
  ·rename_i n;rw [ash] at h;obtain rfl:=Option.some.inj h;have:=bnz (P:=P) (R:=R) (S:=S) (T:=T) (t:=t) (pos:=pos) (after:=after) hx hy (Int.natCast_nonneg n) hN;simp only [Int.ofNat_eq_natCast,toNat_natCast] at this;exact this
  ·cases h
 | eql=>exact hc _ rfl h
 | neq=>exact hc _ rfl h
 | lss=>exact hc _ rfl h
 | leq=>exact hc _ rfl h
 | gtr=>exact hc _ rfl h
 | geq=>exact hc _ rfl h
 | _=>exact hb _ h
end
def neB (op:BinOp) (b:Bool):Bool:=match op with
  | .eql=>b
  | _=>!b
def bpd:AV -> Option Bool
  | .v (.slice none 0 0)=>some true
  | .lst _ (_ :: _)=>some false
  | .ms _ _ _ (_ + 1)=>some false
  | _=>none
theorem a9n {S:TypeId} {w:World} {E:TypeId} (h3:(underlying S).run P w = .ok (.slice E) w) {a:Option Addr} {n c:Nat} :
  (Op.equal S (.slice a n c) (.slice none 0 0)).run P w = .ok a.isNone w:=by
 show (Op.equalIn (9999 + 1) S _ _).run P w = _;rw [Op.equalIn];cases a <;> simp [h3]
theorem bfo {s:AS} {R:Array Oper} {d:Nat} {x:Operand} {xv:AV} {b:Bool} {op:BinOp} {S T t E:TypeId} {ti:TI} {pos:String} {after:Array Edge} (hop:op = .eql \/ op = .neq)
  (hx:Ev s x xv) (hv:bpd xv = some b) (hS:aak P S = some ti) (hk:ti.k = .slice E) (hN:Nat.blt d N = true) :
  Step P N R s ⟨some d,.binOp op S x (.const (.slice none 0 0)) T,t,pos,after,none⟩ ⟨some (.v (.bool (neB op b))),[],aan x,[]⟩ :=
 aa3 rfl rfl hN fun s' hag C m a w hr=>⟨.bool (neB op b), by
  have h:=(hx.agree hag (fun _ h=>h)).rep hr;obtain ⟨d2,h3,h4,-,-⟩:=abt hS w;obtain rfl:=acr (h4.trans hk);have h2:a.eval (.const (.slice none 0 0)) = .slice none 0 0:=rfl
  obtain ⟨ad, n, c, he, hb⟩:∃ ad n c, a.eval x = .slice ad n c /\ ad.isNone = b:=by
   generalize a.eval x = u at h;unfold bpd at hv;split at hv
   ·cases hv; cases h; exact ⟨_,_,_,rfl,rfl⟩
   ·cases hv;cases h with
    | lst u hb hc hl hs h1 hu hr=>exact ⟨_,_,_,rfl,rfl⟩
   ·cases hv;cases h with
    | ms hm hc hS=>exact ⟨_,_,_,rfl,rfl⟩
   ·cases hv
  have h5:=a9n (P:=P) (a:=ad) (n:=n) (c:=c) h3;rcases hop with rfl | rfl <;> simp [execOp,he,h2,eqGuard,binOp,h5,hb,neB],.v _⟩
theorem a3e {s:AS} {R:Array Oper} {d:Nat} {x:Operand} {lo hi:Option Operand} {T E t:TypeId} {ti te:TI} {pos:String} {after:Array Edge}
  (hx:Ev s x (.v (.slice none 0 0))) (hl:EvI s lo 0 0) (hh:EvI s hi 0 0) (hT:aak P T = some ti) (hk:ti.k = .slice E) (hE:aak P E = some te) (hN:Nat.blt d N = true) :
  Step P N R s ⟨some d,.slice T x lo hi none,t,pos,after,none⟩ ⟨some (.v (.slice none 0 0)),[],aan x ++ (rtO lo ++ rtO hi),[]⟩ :=
 aa3 rfl rfl hN fun s' hag C m a w hr=>by
  have hxv:=ali hr (hx.agree hag (fun _ h=>List.mem_append.2 (.inl h)));have hl':=hl.agree hag (fun _ h=>List.mem_append.2 (.inr (List.mem_append.2 (.inl h))));have hh':=hh.agree hag (fun _ h=>List.mem_append.2 (.inr (List.mem_append.2 (.inr h))));obtain ⟨d2,hu,h3,-,-⟩:=abt hT w;obtain rfl:=acr (h3.trans hk);have:=adt (P:=P) hr (cap:=0) true hl' hh' (le_refl _) (le_refl _);exact ⟨.slice none 0 0,by simp [execOp,hxv,Instr.sliceAt,hu,Instr.slice,this,abg hE],.v _⟩
theorem a7a {s:AS} {R:Array Oper} {d:Nat} {x:Operand} {k1 k2:IntKind} {sz:Nat} {es:List AV} {T E t:TypeId} {ti te:TI} {pos:String} {after:Array Edge}
  (hx:Ev s x (.lst sz es)) (hT:aak P T = some ti) (hk:ti.k = .slice E) (hE:aak P E = some te) (hsz:te.size = sz) (hN:Nat.blt d N = true) :
  Step P N R s ⟨some d,.slice T x none (some (.const (.int k1 0))) (some (.const (.int k2 0))),t,pos,after,none⟩ ⟨some (.ms d sz 0 0),[(d,some (.row sz []))],aan x,[]⟩:=by
 refine as4 rfl ?_;intro s' hag hnew C m a w next hC hr hnext
 have hfr:s'.Fresh d:=by
  rcases hnew d (by simp) with h | h
  ·cases h
  ·exact h
 have hxr:=(hx.agree hag (fun _ h=>h)).rep hr;obtain ⟨d2,hu,h3,-,-⟩:=abt hT w;obtain rfl:=acr (h3.trans hk)
 obtain ⟨ad, n, c, he⟩:∃ ad n c, a.eval x = .slice ad n c:=by
  generalize a.eval x = u at hxr;cases hxr with
  | lst0 a cap=>exact ⟨_,_,_,rfl⟩
  | lst u hb hc hl hs h1 hu hr=>exact ⟨_,_,_,rfl⟩
 have e1:a.eval (.const (.int k1 0)) = .int k1 0:=rfl;have e2:a.eval (.const (.int k2 0)) = .int k2 0:=rfl
 have hex:(execOp a.eval ⟨some d, .slice T x none (some (.const (.int k1 0))) (some (.const (.int k2 0))), t, pos, after, none⟩).run P w = .ok (.value (.slice ad 0 0)) w:=by
  simp [execOp,he,e1,e2,Instr.sliceAt,hu,Instr.slice,Instr.sliceBounds,Instr.sliceBound,asIntOf,abg hE]
 rw [hex];rw [Nat.blt_eq] at hN;simp only [Oper.upon,Act.put];obtain ⟨m2,h1⟩:∃ m2,RelM C ⟨s'.sl,(d,some (.row sz [])) :: s'.hp⟩ m2 a w:=⟨_,hr.virt sz hfr⟩
 refine hnext m2 _ _ ?_
 have:=h1.put d (.slice ad 0 0) (some (.ms d sz 0 0)) (fun z hz=>by
  cases hz;exact ⟨by have:=hr.nt; omega,.ms0 _ _ _ _⟩)
 simpa [AS.app] using this
variable [Inhabited (Tys P)]
def bq3:BinOp -> Bool
  | .eql | .neq=>true
  | _=>false
def bob:List UInt8 -> List UInt8 -> Bool
  | [], y=>match y with
    | []=>true
    | _=>false
  | x :: l, y=>match y with
    | x' :: l'=>match Nat.beq x.toNat x'.toNat with
      | true=>bob l l'
      | false=>false
    | []=>false
theorem azl:∀ {a b:List UInt8}, bob a b = (a == b)
 | [],[]=>rfl
 | [],_ :: _=>rfl
 | _ :: _,[]=>rfl
 | x :: l, x' :: l'=>by
  show (match Nat.beq x.toNat x'.toNat with | true=>bob l l' | false=>false) = _;cases h:Nat.beq x.toNat x'.toNat with
  | true =>
   have:x = x':=UInt8.toNat_inj.1 (eq_of_beq_eq_true h);subst this;simp only [azl (a:=l)];simp
  | false =>
   have:x ≠ x':=fun e=>Nat.ne_of_beq_eq_false h (by rw [e])
   simp [this]
def bah (a b:ByteArray):Bool:=bob a.data.toList b.data.toList
theorem axf (a b:ByteArray):(a.toList == b.toList) = bah a b:=by
 unfold bah; rw [azl,ByteArray.toList_eq,ByteArray.toList_eq]
def bqv (P:Program) [Inhabited (Tys P)] (op:BinOp) (S:TypeId) (x y:Operand) (vx vy:Value):Option V1:=match vx with
  | .int k a=>match vy with
    | .int k' b=>bi4 op x y k k' a b
    | _=>none
  | vx=>match vy with
    | .nilIface=>match y with
      | .const _=>match bee vx with
        | true=>match aif P S with
          | some ti=>match ti.k with
            | .iface _=>match op with
              | .eql=>some ⟨.v (.bool (ago vx)),aan x ++ [],[]⟩
              | .neq=>some ⟨.v (.bool !(ago vx)),aan x ++ [],[]⟩
              | _=>none
            | _=>none
          | none=>none
        | false=>none
      | _=>none
    | .string b=>match vx with
      | .string a=>match op with
        | .eql=>match bah a b with
          | true=>some ⟨.v (.bool true),aan x ++ aan y,[]⟩
          | false=>some ⟨.v (.bool false),aan x ++ aan y,[]⟩
        | .neq=>match bah a b with
          | true=>some ⟨.v (.bool false),aan x ++ aan y,[]⟩
          | false=>some ⟨.v (.bool true),aan x ++ aan y,[]⟩
        | _=>none
      | _=>none
    | vy=>match bi1 P op S x y [] vx vy with
      | some r=>match r.ob with
        | []=>some ⟨r.x,r.rt,r.rd⟩
        | _=>none
      | none=>none
def bis (P:Program) [Inhabited (Tys P)] (T sz:Nat):Bool:=match aif P T with
  | some ti=>match ti.k with
    | .slice E=>match aif P E with
      | some te=>Nat.beq te.size sz
      | none=>false
    | _=>false
  | none=>false
theorem aqn {T sz:Nat} (h:bis P T sz = true):∃ ti E te, aak P T = some ti /\ ti.k = .slice E /\ aak P E = some te /\ te.size = sz:=by
 unfold bis at h;split at h
 ·rename_i ti hti;split at h
  ·rename_i E hk;split at h
   ·rename_i te hte;exact ⟨ti,E,te,aax hti,hk,aax hte,eq_of_beq_eq_true h⟩
   ·cases h
  ·cases h
 ·cases h
def bdC (s:AS) (o:Option Operand) (d:Nat):Option Nat:=match o with
  | none=>some d
  | some x=>match rdC s x with
    | some (.v (.int _ (.ofNat n)))=>some n
    | _=>none
theorem asb {s:AS} {o:Option Operand} {d n:Nat} (h:bdC s o d = some n):EvI s o d n:=by
 cases o with
 | none=>cases h; exact .none d
 | some x =>
  simp only [bdC] at h;split at h
  ·rename_i hx;cases h;exact .some (i:=Int.ofNat n) d (abh hx) (Int.natCast_nonneg _)
  ·cases h
def ldE (ti:TI) (l:List AV):Option AV:=match ti.ag with
  | true=>match frc (l.take ti.size) with
    | some r=>some (.agg r)
    | none=>none
  | false=>match Nat.beq ti.size 1 with
    | true=>match l with
      | x :: _=>some x
      | []=>none
    | false=>none
theorem bmx {ti:TI} {l:List AV} {x:AV} (h:ldE ti l = some x):(ti.ag || Nat.beq ti.size 1) = true /\ x = mkT ti.ag (l.take ti.size):=by
 unfold ldE at h;split at h
 ·rename_i ha;split at h
  ·rename_i r hr; cases h; rw [ha,agt hr]; exact ⟨rfl,rfl⟩
  ·cases h
 ·rename_i ha;split at h
  ·rename_i h1;split at h
   ·cases h; rw [ha,eq_of_beq_eq_true h1]; exact ⟨rfl,rfl⟩
   ·cases h
  ·cases h
def bjb:List AV -> List AV -> Option (List Value × List Nat)
  | [],[]=>some ([],[])
  | .v (.int .i64 a) :: l, .v (.int .i64 b) :: l'=>match a == b with
    | true=>match bjb l l' with
      | some (vs,ks)=>some (.int .i64 a :: vs,1 :: ks)
      | none=>none
    | false=>none
  | .v (.string a) :: l, .v (.string b) :: l'=>match bah a b with
    | true=>match bjb l l' with
      | some (vs,ks)=>some (.string a :: vs,2 :: ks)
      | none=>none
    | false=>none
  | _,_=>none
theorem bix {a b:ByteArray} (h:bah a b = true):a = b:=by
 rw [<- axf,beq_iff_eq,ByteArray.toList_eq,ByteArray.toList_eq] at h;cases a; cases b; congr 1
 exact Array.ext' h
theorem ayu:∀ {l l':List AV} {vs:List Value} {ks:List Nat}, bjb l l' = some (vs, ks) -> l = vs.map .v /\ l' = vs.map .v /\ vs.map vk = ks
 | [],[],_,_,h=>by cases h; exact ⟨rfl,rfl,rfl⟩
 | .v (.int .i64 a) :: l, .v (.int .i64 b) :: l', _, _, h=>by
  rw [bjb] at h;split at h
  ·rename_i he;split at h
   ·rename_i vs ks hs;obtain ⟨h1,h2,h3⟩:=ayu hs;cases h;cases eq_of_beq he;exact ⟨by rw [h1]; rfl,by rw [h2]; rfl,by rw [<- h3]; rfl⟩
   ·cases h
  ·cases h
 | .v (.string a) :: l, .v (.string b) :: l', _, _, h=>by
  rw [bjb] at h;split at h
  ·rename_i he;split at h
   ·rename_i vs ks hs;obtain ⟨h1,h2,h3⟩:=ayu hs;cases h;cases bix he;exact ⟨by rw [h1]; rfl,by rw [h2]; rfl,by rw [<- h3]; rfl⟩
   ·cases h
  ·cases h
def bpc (P:Program) (op:BinOp) (S:TypeId) (x y:Operand) (cs cs':List AV):Option V1:=match op with
  | .neq=>match bjb cs cs' with
    | some (_, ks)=>match bol P S ks with
      | true=>some ⟨.v (.bool false),aan x ++ aan y,[]⟩
      | false=>none
    | none=>none
  | _=>none
omit [Inhabited (Tys P)] in
theorem bin {s:AS} {R:Array Oper} {d:Nat} {x y:Operand} {cs cs':List AV} {op:BinOp} {S T t:TypeId} {pos:String} {after:Array Edge} {r:V1} (h:bpc P op S x y cs cs' = some r)
  (hx:Ev s x (.agg cs)) (hy:Ev s y (.agg cs')) (hN:Nat.blt d N = true):Step P N R s ⟨some d,.binOp op S x y T,t,pos,after,none⟩ ⟨some r.x,[],r.rt,r.rd⟩:=by
 unfold bpc at h;split at h
 ·split at h
  ·rename_i vs ks hs;obtain ⟨h1,h2,h3⟩:=ayu hs;subst h1; subst h2
   split at h
   ·rename_i hS; cases h; exact bnp hx hy h3 hS hN
   ·cases h
  ·cases h
 ·cases h
def boh (P:Program) (t:TypeId):Bool:=match P.underlying t with | some (.pointer _)=>true | _=>false
omit [Inhabited (Tys P)] in
theorem bl7 {t:TypeId} (h:boh P t = true):P.underlying t = some (.pointer (P.pointee t)):=by
 unfold boh at h;split at h
 ·rename_i e he;rw [he];unfold Program.pointee;rw [he]
 ·cases h
omit [Inhabited (Tys P)] in
theorem bey {s:AS} {R:Array Oper} {d:Nat} {x:Operand} {k off:Nat} {op:BinOp} {S T t:TypeId} {pos:String} {after:Array Edge} (hop:op = .eql \/ op = .neq)
  (hx:Ev s x (.ptr k off)) (hS:boh P S = true) (hN:Nat.blt d N = true) :
  Step P N R s ⟨some d,.binOp op S x (.const (.pointer none)) T,t,pos,after,none⟩ ⟨some (.v (.bool (neB op false))),[],aan x,[]⟩ :=
 aa3 rfl rfl hN fun s' hag C m a w hr=>⟨.bool (neB op false), by
  have h:=(hx.agree hag (fun _ h=>h)).rep hr;have h2:a.eval (.const (.pointer none)) = .pointer none:=rfl;have hu:=bl7 hS;generalize ha:a.eval x = u at h;cases h;rcases hop with rfl | rfl
  ·simp [execOp,ha,h2,eqGuard,run_eql_pointer_nil w S _ hu,neB]
  ·simp [execOp,ha,h2,eqGuard,run_neq_pointer_nil w S _ hu,neB],.v _⟩
def ptV (P:Program) (op:BinOp) (S:TypeId) (x y:Operand):Option V1:=match y with
  | .const (.pointer none)=>match bq3 op with
    | true=>match boh P S with
      | true=>match op with
        | .eql=>some ⟨.v (.bool false),aan x,[]⟩
        | _=>some ⟨.v (.bool true),aan x,[]⟩
      | false=>none
    | false=>none
  | _=>none
omit [Inhabited (Tys P)] in
theorem bj3 {s:AS} {R:Array Oper} {d:Nat} {x y:Operand} {k off:Nat} {op:BinOp} {S T t:TypeId} {pos:String} {after:Array Edge} {r:V1} (h:ptV P op S x y = some r)
  (hx:Ev s x (.ptr k off)) (hN:Nat.blt d N = true):Step P N R s ⟨some d,.binOp op S x y T,t,pos,after,none⟩ ⟨some r.x,[],r.rt,r.rd⟩:=by
 unfold ptV at h;split at h
 ·split at h
  ·rename_i hop;have hop:op = .eql \/ op = .neq:=by cases op <;> first | exact .inl rfl | exact .inr rfl | cases hop
   split at h
   ·rename_i hS;have h9:=bey (P:=P) (R:=R) (T:=T) (t:=t) (pos:=pos) (after:=after) hop hx hS hN;rcases hop with rfl | rfl <;> (cases h; exact h9)
   ·cases h
  ·cases h
 ·cases h
def bq2 (P:Program) (op:BinOp) (S:TypeId) (x y:Operand) (a b c e:Int):Option V1:=match op with
  | .eql=>match boa P S with
    | true=>match a == c && b == e with
      | true=>some ⟨.v (.bool true),aan x ++ aan y,[]⟩
      | false=>some ⟨.v (.bool false),aan x ++ aan y,[]⟩
    | false=>none
  | _=>none
def opV (P:Program) [Inhabited (Tys P)] (s:AS) (op:Op):Option V1:=match op with
  | .pick c x y=>match rdC s c with
    | some (.v (.bool b))=>match b with
      | true=>match rdC s x with
        | some (.v (.bool z))=>some ⟨.v (.bool z),aan c ++ (aan x ++ aan y),[]⟩
        | _=>none
      | false=>match rdC s y with
        | some (.v (.bool z))=>some ⟨.v (.bool z),aan c ++ (aan x ++ aan y),[]⟩
        | _=>none
    | _=>none
  | .binOp op S x (.const (.slice none 0 0)) _=>match bq3 op with
    | true=>match rdC s x with
      | some xv=>match bpd xv with
        | some b=>match aif P S with
          | some ti=>match ti.k with
            | .slice _=>match op with
              | .eql=>some ⟨.v (.bool b),aan x,[]⟩
              | _=>match b with
                | true=>some ⟨.v (.bool false),aan x,[]⟩
                | false=>some ⟨.v (.bool true),aan x,[]⟩
            | _=>none
          | none=>none
        | none=>none
      | none=>none
    | false=>none
  | .binOp op S x y _=>match rdC s x with
    | some (.v vx)=>match rdC s y with
      | some (.v vy)=>bqv P op S x y vx vy
      | _=>none
    | some (.agg [.v (.int .i64 a), .v (.int .i64 b)])=>match rdC s y with
      | some (.agg [.v (.int .i64 c),.v (.int .i64 e)])=>bq2 P op S x y a b c e
      | _=>none
    | some (.ptr _ _)=>ptV P op S x y
    | some (.agg cs)=>match rdC s y with
      | some (.agg cs')=>bpc P op S x y cs cs'
      | _=>none
    | _=>none
  | .unOp .neg _ x=>match rdC s x with
    | some (.v (.int k n))=>wI (k.wrap (0 - n)) fun z=>some ⟨.v (.int k z),aan x,[]⟩
    | _=>none
  | .convert S T x=>match rdC s x with
    | some (.v (.int _ n))=>match aif P S with
      | some _=>match aif P T with
        | some ti=>match ti.k with
          | .int k'=>wI (k'.wrap n) fun z=>some ⟨.v (.int k' z),aan x,[]⟩
          | _=>none
        | none=>none
      | none=>none
    | _=>none
  | .indexAddr T x ix=>match rdC s ix with
    | some (.v (.int _ (.ofNat i)))=>match rdC s x with
      | some (.lst sz es)=>match bis P T sz with
        | true=>match es[i]? with
          | some e=>some ⟨.iptr e.cells,aan x ++ aan ix,[]⟩
          | none=>none
        | false=>none
      | some (.ms k sz off len)=>match bis P T sz && Nat.blt i len with
        | true=>wN (off + i) fun n=>some ⟨.eptr k sz n 0,aan x ++ aan ix,[]⟩
        | false=>none
      | some (.ptr k off)=>match aif P T with
        | some ti=>match ti.k with
          | .array n E=>match aif P E with
            | some te=>match Nat.blt i n with
              | true=>wN (off + i * te.size) fun m=>some ⟨.ptr k m,aan x ++ aan ix,[]⟩
              | false=>none
            | none=>none
          | _=>none
        | none=>none
      | _=>none
    | _=>none
  | .load T x=>match rdC s x with
    | some (.eptr k sz i off)=>match s.blk k with
      | some (.row sz' es)=>match Nat.beq sz sz' with
        | true=>match es[i]? with
          | some e=>match aif P T with
            | some ti=>match Nat.ble (off + ti.size) e.cells.length with
              | true=>match ldE ti (e.cells.drop off) with
                | some v=>some ⟨v,aan x,[k]⟩
                | none=>none
              | false=>none
            | none=>none
          | none=>none
        | false=>none
      | _=>none
    | some y=>match aif P T with
      | some ti=>match a3l P s ti x [] y with
        | some r=>some ⟨r.x,r.rt,r.rd⟩
        | none=>none
      | none=>none
    | none=>none
  | .index T x ix=>match rdC s ix with
    | some (.v (.int _ (.ofNat i)))=>match rdC s x with
      | some (.v (.string b))=>match aif P T with
        | some ti=>match ti.k with
          | .string=>match Nat.blt i b.size with
            | true=>wN (b.data.getD i 0).toNat fun n=>some ⟨.v (.int .u8 (Int.ofNat n)),aan x ++ aan ix,[]⟩
            | false=>none
          | _=>none
        | none=>none
      | _=>none
    | _=>none
  | .slice T x lo hi none=>match rdC s x with
    | some (.lst sz es)=>match bdC s lo 0 with
      | some l=>match bdC s hi es.length with
        | some h=>match bis P T sz && Nat.ble l h && Nat.ble h es.length with
          | true=>match frc ((es.drop l).take (h - l)) with
            | some r=>some ⟨.lst sz r,aan x ++ (rtO lo ++ rtO hi),[]⟩
            | none=>none
          | false=>none
        | none=>none
      | none=>none
    | some (.v (.slice none 0 0))=>match bdC s lo 0 with
      | some 0=>match bdC s hi 0 with
        | some 0=>match aif P T with
          | some ti=>match ti.k with
            | .slice E=>match aif P E with
              | some _=>some ⟨.v (.slice none 0 0),aan x ++ (rtO lo ++ rtO hi),[]⟩
              | none=>none
            | _=>none
          | none=>none
        | _=>none
      | _=>none
    | some (.ms k sz off len)=>match bdC s lo 0 with
      | some l=>match bdC s hi len with
        | some h=>match bis P T sz && Nat.ble l h && Nat.ble h len with
          | true=>wN (off + l) fun a=>wN (h - l) fun b=>some ⟨.ms k sz a b,aan x ++ (rtO lo ++ rtO hi),[]⟩
          | false=>none
        | none=>none
      | none=>none
    | _=>none
  | .call ⟨.builtin .len, args, ts⟩=>match args.toList with
    | [x]=>match ts.toList with
      | [T]=>match rdC s x with
        | some (.lst _ es)=>match aif P T with
          | some ti=>match ti.k with
            | .slice _=>wN es.length fun n=>some ⟨.v (.int .i64 (Int.ofNat n)),aan x,[]⟩
            | _=>none
          | none=>none
        | some y=>match bi0 P x T [] y with
          | some r=>some ⟨r.x,r.rt,r.rd⟩
          | none=>none
        | none=>none
      | _=>none
    | _=>none
  | .call ⟨.builtin .max, args, ts⟩=>match args.toList with
    | [x, y]=>match rdC s x with
      | some (.v (.int .i64 a))=>match rdC s y with
        | some (.v (.int .i64 b))=>wI (if b > a then b else a) fun z=>some ⟨.v (.int .i64 z),aan x ++ aan y,[]⟩
        | _=>none
      | _=>none
    | _=>none
  | op=>match a7v P false True s op with
    | some r=>match r.ob with
      | []=>some ⟨r.x,r.rt,r.rd⟩
      | _=>none
    | none=>none
omit [Inhabited (Tys P)] in
theorem bk4 {N d:Nat} {s:AS} {R:Array Oper} {x y:Operand} {a b:Int} {t:TypeId} {ts:Array TypeId} {pos:String} {after:Array Edge} (hx:Ev s x (.v (.int .i64 a))) (hy:Ev s y (.v (.int .i64 b))) (hN:Nat.blt d N = true) :
  Step P N R s ⟨some d,.call ⟨.builtin .max,#[x,y],ts⟩,t,pos,after,none⟩ ⟨some (.v (.int .i64 (if b > a then b else a))),[],aan x ++ aan y,[]⟩ :=
 aa3 rfl rfl hN fun s' hag C m ac w hr=>⟨.int .i64 (if b > a then b else a), by
  have h:=(hx.agree hag (fun _ h=>List.mem_append.2 (.inl h))).rep hr;have h':=(hy.agree hag (fun _ h=>List.mem_append.2 (.inr h))).rep hr;generalize hu:ac.eval x = u at h;generalize hv:ac.eval y = v at h';cases h; cases h'
  simp [execOp,resolve,hu,hv,invoke,builtin,Builtin.max_,Builtin.max2],.v _⟩
section
variable {s:AS} {R:Array Oper} {d:Nat} {t T:TypeId} {pos:String} {after:Array Edge}
theorem bg0 {op:BinOp} {x y:Operand} {vx vy:Value} {S:TypeId} {r:V1} (hx:Ev s x (.v vx)) (hy:Ev s y (.v vy)) (h:bqv P op S x y vx vy = some r) (hN:Nat.blt d N = true) :
  Step P N R s ⟨some d,.binOp op S x y T,t,pos,after,none⟩ ⟨some r.x,[],r.rt,r.rd⟩:=by
 unfold bqv at h;split at h
 ·split at h
  ·exact bip hx hy h hN
  ·cases h
 ·split at h
  ·split at h
   ·rename_i c;have hc:c = .nilIface:=by cases hy; rfl
    subst hc;split at h
    ·rename_i he;split at h
     ·rename_i ti hti;split at h
      ·rename_i hk;split at h
       ·cases h; exact a8s hx (auo he) (aax hti) hk hN
       ·cases h; exact a5i hx (auo he) (aax hti) hk hN
       ·cases h
      ·cases h
     ·cases h
    ·cases h
   ·cases h
  ·split at h
   ·split at h
    ·have h9:=a1g (P:=P) (R:=R) (S:=S) (T:=T) (t:=t) (pos:=pos) (after:=after) hx hy hN;rw [axf] at h9;split at h
     ·rename_i hb; rw [hb] at h9; cases h; exact h9
     ·rename_i hb; rw [hb] at h9; cases h; exact h9
    ·have h9:=a9l (P:=P) (R:=R) (S:=S) (T:=T) (t:=t) (pos:=pos) (after:=after) hx hy hN;rw [axf] at h9;split at h
     ·rename_i hb; rw [hb] at h9; cases h; exact h9
     ·rename_i hb; rw [hb] at h9; cases h; exact h9
    ·cases h
   ·cases h
  ·split at h
   ·rename_i r' h1;split at h
    ·rename_i ho; cases h; exact a8e hx hy h1 (by rw [ho]; exact .nil) hN
    ·cases h
   ·cases h
theorem a9v {op:Op} {r:V1} (h:opV P s op = some r) (hN:Nat.blt d N = true):Step P N R s ⟨some d, op, t, pos, after, none⟩ ⟨some r.x, [], r.rt, r.rd⟩:=by
 unfold opV at h;split at h
 ·split at h
  ·rename_i hc;split at h
   ·split at h
    ·rename_i z hz; cases h
     exact a7z (bz:=z) (abh hc) (fun _=>abh hz) (fun e=>by cases e) hN
    ·cases h
   ·split at h
    ·rename_i z hz; cases h
     exact a7z (bx:=z) (abh hc) (fun e=>by cases e) (fun _=>abh hz) hN
    ·cases h
  ·cases h
 ·rename_i op S x T;split at h
  ·rename_i hop;have hop:op = .eql \/ op = .neq:=by cases op <;> first | exact .inl rfl | exact .inr rfl | cases hop
   split at h
   ·rename_i xv hx;split at h
    ·rename_i b hv;split at h
     ·rename_i ti hti;split at h
      ·rename_i hk;have h9:=bfo (P:=P) (R:=R) (T:=T) (t:=t) (pos:=pos) (after:=after) hop (abh hx) hv (aax hti) hk hN;rcases hop with rfl | rfl
       ·cases h; exact h9
       ·cases b <;> (cases h; exact h9)
      ·cases h
     ·cases h
    ·cases h
   ·cases h
  ·cases h
 ·rename_i T hne;split at h
  ·rename_i hx;split at h
   ·rename_i hy; exact bg0 (abh hx) (abh hy) h hN
   ·cases h
  ·rename_i hx;split at h
   ·rename_i hy;unfold bq2 at h;split at h
    ·split at h
     ·rename_i he;have h9:=bqa (P:=P) (R:=R) (T:=T) (t:=t) (pos:=pos) (after:=after) (abh hx) (abh hy) he hN;split at h
      ·rename_i hb; rw [hb] at h9; cases h; exact h9
      ·rename_i hb; rw [hb] at h9; cases h; exact h9
     ·cases h
    ·cases h
   ·cases h
  ·rename_i hx; exact bj3 h (abh hx) hN
  ·rename_i hx;split at h
   ·rename_i hy; exact bin h (abh hx) (abh hy) hN
   ·cases h
  ·cases h
 ·split at h
  ·rename_i hx; rw [ash] at h; cases h; exact a95 (abh hx) hN
  ·cases h
 ·split at h
  ·rename_i hx;split at h
   ·rename_i hS;split at h
    ·rename_i hT;split at h
     ·rename_i hk; rw [ash] at h; cases h; exact bji (abh hx) hN (aax hS) (aax hT) hk
     ·cases h
    ·cases h
   ·cases h
  ·cases h
 ·split at h
  ·rename_i i hi;split at h
   ·rename_i hx;split at h
    ·rename_i hs;obtain ⟨ti,E,te,h1,h2,h3,h4⟩:=aqn hs;split at h
     ·rename_i e he; cases h
      exact a0v (i:=Int.ofNat i) (abh hx) (abh hi) h1 h2 h3 h4 (Int.natCast_nonneg _) he hN
     ·cases h
    ·cases h
   ·rename_i hx;split at h
    ·rename_i hs;simp only [and_eq_true,Nat.blt_eq] at hs;obtain ⟨ti,E,te,h1,h2,h3,h4⟩:=aqn hs.1;rw [auk] at h; cases h
     exact aic (i:=Int.ofNat i) (abh hx) (abh hi) h1 h2 h3 h4 (Int.natCast_nonneg _) (Int.ofNat_lt.2 hs.2) hN
    ·cases h
   ·rename_i hx;split at h
    ·rename_i hT;split at h
     ·rename_i hk;split at h
      ·rename_i hE;split at h
       ·rename_i hlt;rw [auk] at h; cases h
        exact bio (i:=Int.ofNat i) (abh hx) (abh hi) (aax hT) hk (aax hE) rfl (Int.natCast_nonneg _) (Int.ofNat_lt.2 (by rw [Nat.blt_eq] at hlt; exact hlt)) hN
       ·cases h
      ·cases h
     ·cases h
    ·cases h
   ·cases h
  ·cases h
 ·split at h
  ·rename_i hx;split at h
   ·rename_i hk;split at h
    ·rename_i hs;split at h
     ·rename_i e he;split at h
      ·rename_i ti hT;split at h
       ·rename_i hle;split at h
        ·rename_i v hv;cases h;cases eq_of_beq_eq_true hs;obtain ⟨h1,rfl⟩:=bmx hv;exact aae (abh hx) hk he (aax hT) hle h1 hN
        ·cases h
       ·cases h
      ·cases h
     ·cases h
    ·cases h
   ·cases h
  ·rename_i hx;split at h
   ·rename_i ti hT;split at h
    ·rename_i h1; cases h; exact a1p (abh hx) (aax hT) h1 hN
    ·cases h
   ·cases h
  ·cases h
 ·split at h
  ·rename_i i hi;split at h
   ·rename_i hx;split at h
    ·rename_i ti hT;split at h
     ·rename_i hk;split at h
      ·rename_i hb;rw [Nat.blt_eq] at hb;rw [auk] at h; cases h
       exact aob (i:=Int.ofNat i) (abh hx) (abh hi) (aax hT) hk (Int.natCast_nonneg _) (Int.ofNat_lt.2 hb) hN
      ·cases h
     ·cases h
    ·cases h
   ·cases h
  ·cases h
 ·split at h
  ·rename_i hx;split at h
   ·rename_i l hl;split at h
    ·rename_i hh hhi;split at h
     ·rename_i hs;simp only [and_eq_true,Nat.ble_eq] at hs;obtain ⟨ti,E,te,h1,h2,h3,h4⟩:=aqn hs.1.1;split at h
      ·rename_i hr; cases h; cases agt hr
       exact aao (abh hx) (asb hl) (asb hhi) h1 h2 h3 h4 hs.1.2 hs.2 hN
      ·cases h
     ·cases h
    ·cases h
   ·cases h
  ·rename_i hx;split at h
   ·rename_i hl;split at h
    ·rename_i hh;split at h
     ·rename_i ti hT;split at h
      ·rename_i E hk;split at h
       ·rename_i te hE;cases h;exact a3e (abh hx) (asb hl) (asb hh) (aax hT) hk (aax hE) hN
       ·cases h
      ·cases h
     ·cases h
    ·cases h
   ·cases h
  ·rename_i hx;split at h
   ·rename_i l hl;split at h
    ·rename_i hh hhi;split at h
     ·rename_i hs;simp only [and_eq_true,Nat.ble_eq] at hs;obtain ⟨ti,E,te,h1,h2,h3,h4⟩:=aqn hs.1.1;rw [auk,auk] at h; cases h
      exact ajf (abh hx) (asb hl) (asb hhi) h1 h2 h3 h4 hs.1.2 hs.2 hN
     ·cases h
    ·cases h
   ·cases h
  ·cases h
 ·rename_i args ts;split at h
  ·rename_i x hx;split at h
   ·rename_i T hT;have e1:args = #[x]:=by apply Array.toList_inj.1; simpa using hx
    have e2:ts = #[T]:=by apply Array.toList_inj.1; simpa using hT
    subst e1; subst e2
    split at h
    ·rename_i h1;split at h
     ·rename_i ti hti;split at h
      ·rename_i hk; rw [auk] at h; cases h; exact af0 (abh h1) (aax hti) hk hN
      ·cases h
     ·cases h
    ·rename_i h1;split at h
     ·rename_i h2; cases h; exact a9h (abh h1) h2 hN
     ·cases h
    ·cases h
   ·cases h
  ·cases h
 ·rename_i args ts;split at h
  ·rename_i x y hx;split at h
   ·rename_i h1;split at h
    ·rename_i h2;have e1:args = #[x,y]:=by apply Array.toList_inj.1; simpa using hx
     subst e1;rw [ash] at h; cases h; exact bk4 (abh h1) (abh h2) hN
    ·cases h
   ·cases h
  ·cases h
 ·split at h
  ·rename_i h1;split at h
   ·rename_i ho; cases h; exact aof h1 (by rw [ho]; exact .nil) trivial hN
   ·cases h
  ·cases h
end
end Go.Lw
namespace Go.Lw
variable {P:Program} {N:Nat}
def tr (a b k:Nat):Nat:=match Nat.beq k a with
  | true=>b
  | false=>match Nat.beq k b with
    | true=>a
    | false=>k
theorem boy (a b k:Nat):tr a b k = if k = a then b else if k = b then a else k:=by
 unfold tr;split
 ·rename_i h; rw [if_pos (eq_of_beq_eq_true h)]
 ·rename_i h; rw [if_neg (Nat.ne_of_beq_eq_false h)]
  split
  ·rename_i h; rw [if_pos (eq_of_beq_eq_true h)]
  ·rename_i h; rw [if_neg (Nat.ne_of_beq_eq_false h)]
theorem baj (a b k:Nat):tr a b (tr a b k) = k:=by
 simp only [boy]
 by_cases h1:k = a
 ·subst h1
  by_cases h2:b = k
  ·simp [h2]
  ·simp [h2]
 ·by_cases h2:k = b
  ·subst h2; simp [h1]
  ·simp [h1,h2]
theorem a4g {σ:Nat -> Nat} (hσ:∀ k, σ (σ k) = k):∀ H:Hp, pmH σ (pmH σ H) = H
 | []=>rfl
 | (k, x) :: l=>by
  simp only [pmH,hσ,a4g hσ l];cases x with
  | none=>rfl
  | some x=>simp only [Blk.pm_pm hσ]
def tA:List (Nat × Nat) -> List AV -> List AV
  | [],xs=>xs
  | p :: L,xs=>tA L (xs.map (AV.pm (tr p.1 p.2)))
def tH:List (Nat × Nat) -> Hp -> Hp
  | [],H=>H
  | p :: L,H=>tH L (pmH (tr p.1 p.2) H)
def rB:List (Nat × Nat) -> AV -> AV
  | [],r=>r
  | p :: L,r=>(rB L r).pm (tr p.1 p.2)
def hB:List (Nat × Nat) -> Hp -> Hp
  | [],H=>H
  | p :: L,H=>pmH (tr p.1 p.2) (hB L H)
theorem bq4 {f:FuncId}:∀ {L:List (Nat × Nat)} {xs:List AV} {H H':Hp} {r:AV}, Con P f (tA L xs) (tH L H) r H' -> Con P f xs H (rB L r) (hB L H')
 | [],xs,H,H',r,h=>h
 | p :: L, xs, H, H', r, h=>by
  have h1:=(bq4 (L:=L) h).pm (baj p.1 p.2);rw [a4g (baj p.1 p.2),map_map] at h1;have e:(AV.pm (tr p.1 p.2) ∘ AV.pm (tr p.1 p.2)) = id:=by funext x; exact AV.pm_pm (baj p.1 p.2) x
  rw [e,List.map_id] at h1;exact h1
def bq5:Nat -> List Nat -> List (Nat × Nat)
  | _,[]=>[]
  | b,k :: ks=>(k,b) :: bq5 (b + 1) ks
def a3x (k:Nat):List Nat -> Bool
  | []=>false
  | x :: l=>match Nat.beq k x with
    | true=>true
    | false=>a3x k l
def a3c (s:AS):Nat -> List Nat -> List Nat -> List Nat
  | 0,_,acc=>acc
  | n + 1, ks, acc=>match ks with
    | []=>acc
    | k :: ks=>match a3x k acc with
      | true=>a3c s n ks acc
      | false=>match s.blk k with
        | some z=>a3c s n (z.nm ++ ks) (acc ++ [k])
        | none=>a3c s n ks acc
def pkH (s:AS):List Nat -> Hp
  | []=>[]
  | k :: ks=>match s.blk k with
    | some z=>(k,some z) :: pkH s ks
    | none=>pkH s ks
theorem avo {s:AS}:∀ {ks:List Nat} {k:Nat} {z:Blk}, lk (pkH s ks) k = some z -> lk s.hp k = some z
 | [],k,z,h=>by cases h
 | k' :: ks, k, z, h=>by
  unfold pkH at h;split at h
  ·rename_i y hy;rw [aab] at h;split at h
   ·rename_i e; cases h; rw [e]; exact hy
   ·exact avo h
  ·exact avo h
structure Ent (P:Program) where
  f:FuncId
  xs:List AV
  r:AV
  H':Hp
  con:Con P f xs [] r H'
structure FE (P:Program) where
  f:FuncId
  fn:Func
  c:Code
  rs:List ResultVar
  hf:P.funcs[f]? = some fn
  hb:fn.body = some c
  hn : (fn.name == "runtime.NumGoroutine") = false
  hrs:fn.results = rs.toArray
structure Env (P:Program) where
  orc:FuncId -> Option (List AV -> Option (Ent P))
  fe:FuncId -> Option (FE P)
  mt:FuncId -> Bool
def vEq:Value -> Value -> Bool
  | .int k a,.int k' b=>Nat.beq (ikn k) (ikn k') && aaa .eql a b
  | .bool a,.bool b=>a == b
  | .nilIface,.nilIface=>true
  | .string a,.string b=>bah a b
  | .slice none 0 0,.slice none 0 0=>true
  | .func (.func f) ⟨[]⟩ ⟨[]⟩,.func (.func g) ⟨[]⟩ ⟨[]⟩=>Nat.beq f g
  | .nilFunc,.nilFunc=>true
  | .pointer none,.pointer none=>true
  | .iface T v,.iface T' v'=>Nat.beq T T' && vEq v v'
  | _,_=>false
theorem bhk {a b:ByteArray} (h:bah a b = true):a = b:=by
 unfold bah at h;rw [azl] at h;have h:=eq_of_beq h;have e:∀ c:ByteArray,c = ⟨⟨c.data.toList⟩⟩:=fun c=>by cases c; rfl
 rw [e a,e b,h]
theorem a1b:∀ (a b:Value), vEq a b = true -> a = b
 | .iface T v, b, h=>by
  cases b with
  | iface T' v' =>
   simp only [vEq,and_eq_true] at h;rw [eq_of_beq_eq_true h.1,a1b v v' h.2]
  | _=>simp [vEq] at h
 | .int k a, b, h=>by
  cases b with
  | int k' b =>
   simp only [vEq,and_eq_true] at h;rw [aia h.1,eq_of_beq (show (a == b) = true from h.2)]
  | _=>simp [vEq] at h
 | .bool a, b, h=>by
  cases b with
  | bool b=>simp only [vEq,beq_iff_eq] at h; rw [h]
  | _=>simp [vEq] at h
 | .string a, b, h=>by
  cases b with
  | string b=>simp only [vEq] at h; rw [bhk h]
  | _=>simp [vEq] at h
 | .nilIface, b, h=>by
  cases b <;> simp [vEq] at h
  rfl
 | .slice x n c, b, h=>by
  unfold vEq at h;split at h <;> simp_all
 | .float ..,b,h=>by simp [vEq] at h
 | .complex ..,b,h=>by simp [vEq] at h
 | .pointer p, b, h=>by
  unfold vEq at h;split at h <;> simp_all
 | .map _,b,h=>by simp [vEq] at h
 | .chan _,b,h=>by simp [vEq] at h
 | .func f x y, b, h=>by
  unfold vEq at h;split at h <;> first | (simp_all; done) | (simp_all; exact eq_of_beq_eq_true h)
 | .nilFunc, b, h=>by
  unfold vEq at h;split at h <;> simp_all
 | .agg _,b,h=>by simp [vEq] at h
 | .tuple _,b,h=>by simp [vEq] at h
mutual
def an2:AV -> AV -> Bool
  | .v a, y=>match y with
    | .v b=>vEq a b
    | .lst _ es=>match es with
      | []=>match a with
        | .slice _ 0 _=>true
        | _=>false
      | _=>false
    | _=>false
  | .lst sz es, y=>match y with
    | .lst sz' es'=>Nat.beq sz sz' && azb es es'
    | _=>false
  | .agg cs, y=>match y with
    | .agg cs'=>aym cs cs'
    | _=>false
  | .tup cs, y=>match y with
    | .tup cs'=>a35 cs cs'
    | _=>false
  | _,_=>false
def aym:List AV -> List AV -> Bool
  | [], y=>match y with
    | []=>true
    | _=>false
  | x :: l, y=>match y with
    | x' :: l'=>x'.one && an2 x x' && aym l l'
    | []=>false
def a35:List AV -> List AV -> Bool
  | [], y=>match y with
    | []=>true
    | _=>false
  | x :: l, y=>match y with
    | x' :: l'=>an2 x x' && a35 l l'
    | []=>false
def azb:List AV -> List AV -> Bool
  | [], y=>match y with
    | []=>true
    | _=>false
  | x :: l, y=>match y with
    | x' :: l'=>asc x x' && azb l l'
    | []=>false
def asc:AV -> AV -> Bool
  | .agg cs, y=>match y with
    | .agg cs'=>aym cs cs'
    | _=>false
  | .v a, y=>match y with
    | .v b=>vEq a b && b.oneCell'
    | .lst _ es=>match es with
      | []=>match a with
        | .slice _ 0 _=>true
        | _=>false
      | _=>false
    | _=>false
  | .lst sz es, y=>match y with
    | .lst sz' es'=>Nat.beq sz sz' && azb es es'
    | _=>false
  | _,_=>false
end
theorem bm8 {a:Value} {y:AV} (h:an2 (.v a) y = true):Sub (.v a) y:=by
 cases y with
 | v b=>simp only [an2] at h; rw [a1b _ _ h]; exact .refl _
 | lst sz es =>
  cases es with
  | nil =>
   cases a with
   | slice x n c =>
    cases n with
    | zero=>exact .nil _ _ _
    | succ n=>simp [an2] at h
   | _=>simp [an2] at h
  | cons e es=>simp [an2] at h
 | _=>simp [an2] at h
mutual
theorem aye:∀ (x y:AV), an2 x y = true -> Sub x y
 | .v a,y,h=>bm8 h
 | .lst sz es, y, h=>by
  cases y with
  | lst sz' es' =>
   simp only [an2,and_eq_true] at h;cases eq_of_beq_eq_true h.1;exact Sub.lst (amb es es' h.2).1 (amb es es' h.2).2
  | _=>simp [an2] at h
 | .agg cs, y, h=>by
  cases y with
  | agg cs' =>
   simp only [an2] at h;exact Sub.agg (aok cs cs' h).1 (aok cs cs' h).2
  | _=>simp [an2] at h
 | .tup cs, y, h=>by
  cases y with
  | tup cs' =>
   simp only [an2] at h;exact Sub.tup (azw cs cs' h)
  | _=>simp [an2] at h
 | .iptr _,y,h=>by simp [an2] at h
 | .ms ..,y,h=>by simp [an2] at h
 | .ptr ..,y,h=>by simp [an2] at h
 | .eptr ..,y,h=>by simp [an2] at h
 | .fn ..,y,h=>by simp [an2] at h
 | .opt ..,y,h=>by simp [an2] at h
 | .yl ..,y,h=>by simp [an2] at h
 | .cl ..,y,h=>by simp [an2] at h
theorem aok:∀ (l l':List AV), aym l l' = true -> SubL l l' /\ l'.all AV.one = true
 | [],[],h=>⟨.nil,rfl⟩
 | [],_ :: _,h=>by simp [aym] at h
 | _ :: _,[],h=>by simp [aym] at h
 | x :: l, x' :: l', h=>by
  simp only [aym,and_eq_true] at h;obtain ⟨h1,h2⟩:=aok l l' h.2;exact ⟨.cons (aye x x' h.1.2) h1,by simp only [List.all_cons,h.1.1,h2,Bool.and_self]⟩
theorem azw:∀ (l l':List AV), a35 l l' = true -> SubL l l'
 | [],[],h=>.nil
 | [],_ :: _,h=>by simp [a35] at h
 | _ :: _,[],h=>by simp [a35] at h
 | x :: l, x' :: l', h=>by
  simp only [a35,and_eq_true] at h;exact .cons (aye x x' h.1) (azw l l' h.2)
theorem amb:∀ (l l':List AV), azb l l' = true -> l.length = l'.length /\ ∀ (i:Nat) (e e':AV), l[i]? = some e -> l'[i]? = some e' -> adb e e'
 | [],[],h=>⟨rfl,fun i e e' h=>by simp at h⟩
 | [],_ :: _,h=>by simp [azb] at h
 | _ :: _,[],h=>by simp [azb] at h
 | x :: l, x' :: l', h=>by
  simp only [azb,and_eq_true] at h;obtain ⟨h1,h2⟩:=amb l l' h.2;refine ⟨by simp [h1],?_⟩;intro i e e' he he';cases i with
  | zero=>simp at he he'; subst he; subst he'; exact bh6 x x' h.1
  | succ i=>exact h2 i e e' (by simpa using he) (by simpa using he')
theorem bh6:∀ (x y:AV), asc x y = true -> adb x y
 | .v a, y, h=>by
  have one:∀ {z:AV}, z.cells = [z] -> z.one = true -> Sub (.v a) z -> adb (.v a) z:=by
   intro z h1 h2 h3;refine ⟨by rw [h1]; rfl,?_⟩;intro j x y hx hy;rw [h1] at hy;cases j with
   | zero=>simp [AV.cells] at hx hy; subst hx; subst hy; exact ⟨h2,h3⟩
   | succ j=>simp at hy
  cases y with
  | v b =>
   simp only [asc,and_eq_true] at h;exact one rfl h.2 (by rw [a1b _ _ h.1]; exact .refl _)
  | lst sz es =>
   refine one rfl rfl (bm8 ?_);cases es with
   | nil=>unfold asc at h; unfold an2; exact h
   | cons=>simp [asc] at h
  | _=>simp [asc] at h
 | .lst sz es, y, h=>by
  cases y with
  | lst sz' es' =>
   simp only [asc,and_eq_true] at h;cases eq_of_beq_eq_true h.1;refine ⟨rfl,?_⟩;intro j x y hx hy;cases j with
   | zero =>
    simp [AV.cells] at hx hy; subst hx; subst hy
    exact ⟨rfl,Sub.lst (amb es es' h.2).1 (amb es es' h.2).2⟩
   | succ j=>simp [AV.cells] at hy
  | _=>simp [asc] at h
 | .agg cs, y, h=>by
  cases y with
  | agg cs' =>
   simp only [asc] at h;obtain ⟨h1,h2⟩:=aok cs cs' h;exact ⟨h1.len,fun j x y hx hy=>⟨List.all_eq_true.1 h2 y (mem_of_getElem? hy),h1.get j x y hx hy⟩⟩
  | _=>simp [asc] at h
 | .tup ..,y,h=>by simp [asc] at h
 | .iptr _,y,h=>by simp [asc] at h
 | .ms ..,y,h=>by simp [asc] at h
 | .ptr ..,y,h=>by simp [asc] at h
 | .eptr ..,y,h=>by simp [asc] at h
 | .fn ..,y,h=>by simp [asc] at h
 | .opt ..,y,h=>by simp [asc] at h
 | .yl ..,y,h=>by simp [asc] at h
 | .cl ..,y,h=>by simp [asc] at h
end
end Go.Lw
namespace Go.Lw
variable {P:Program} {N:Nat}
inductive OR where
  | ok (u:Out)
  | need (k:Nat)
  | no
inductive CR where
  | ok (H:Hp) (r:AV) (H':Hp)
  | need (k:Nat)
  | no
def axm:List AV -> List AV -> Bool
  | [], y=>match y with
    | []=>true
    | _=>false
  | x :: l, y=>match y with
    | x' :: l'=>an2 x x' && axm l l'
    | []=>false
theorem a0f:∀ {l l':List AV}, axm l l' = true -> SubL l l'
 | [],[],h=>.nil
 | [],_ :: _,h=>by simp [axm] at h
 | _ :: _,[],h=>by simp [axm] at h
 | x :: l, x' :: l', h=>by
  simp only [axm,and_eq_true] at h;exact .cons (aye x x' h.1) (a0f h.2)
def mx:Nat -> List Nat -> Nat
  | m,[]=>m
  | m, k :: l=>match Nat.blt m k && Nat.blt k 1000 with
    | true=>mx k l
    | false=>mx m l
def bib (s:AS):Nat -> Nat -> Nat
  | 0,k=>k
  | n + 1, k=>match s.freshB k with
    | true=>k
    | false=>bib s n (k + 1)
def nxt (s:AS) (av:List Nat):Nat:=bib s 100 (mx (mx 299 (s.hp.map (·.1))) av + 1)
mutual
theorem AV.pm_id (σ:Nat -> Nat):∀ x:AV, x.nm = [] -> x.pm σ = x
 | .ms k sz off len,h=>by simp [AV.nm] at h
 | .ptr k off,h=>by simp [AV.nm] at h
 | .eptr k sz i off,h=>by simp [AV.nm] at h
 | .yl k,h=>by simp [AV.nm] at h
 | .agg cs,h=>by simp only [AV.pm]; rw [AV.pms_id σ cs (by simpa only [AV.nm] using h)]
 | .tup cs,h=>by simp only [AV.pm]; rw [AV.pms_id σ cs (by simpa only [AV.nm] using h)]
 | .fn f cs,h=>by simp only [AV.pm]; rw [AV.pms_id σ cs (by simpa only [AV.nm] using h)]
 | .opt b x,h=>by simp only [AV.pm]; rw [AV.pm_id σ x (by simpa only [AV.nm] using h)]
 | .v x,h=>rfl
 | .lst sz l,h=>rfl
 | .iptr l,h=>rfl
 | .cl f cs ds,h=>rfl
theorem AV.pms_id (σ:Nat -> Nat):∀ l:List AV, AV.nms l = [] -> AV.pms σ l = l
 | [],h=>rfl
 | x :: l, h=>by
  simp only [AV.nms,List.append_eq_nil_iff] at h;simp only [AV.pms]; rw [AV.pm_id σ x h.1,AV.pms_id σ l h.2]
end
theorem bid {f:FuncId} {xs:List AV} {r:AV} {H':Hp} (h:Con P f xs [] r H') (hx:AV.nms xs = []) (k d:Nat):Con P f xs [] (r.pm (tr k d)) (pmH (tr k d) H'):=by
 have h1:=h.pm (baj k d);rw [<- AV.pms_eq,AV.pms_id _ xs hx] at h1;exact h1
abbrev aih:=List Nat -> FuncId -> List AV -> Hp -> Option (AV × Hp)
def aih.Ok (P:Program) (F:aih):Prop:=∀ av f xs H r H',F av f xs H = some (r,H') -> Con P f xs H r H'
def bq0 (s:AS):List Nat -> Option Nat
  | []=>none
  | k :: ks=>match s.blk k with
    | some (.row _ _)=>some k
    | _=>bq0 s ks
def bdd (F:aih) (s:AS) (av:List Nat) (f:FuncId) (xs:List AV):CR :=
  match pkH s (a3c s 300 (AV.nms xs) []) with
  | H=>match F (s.hp.map (·.1) ++ av) f xs H with
    | some (r,H')=>.ok H r H'
    | none=>.no
def a5y (E:Env P) (F:aih) (s:AS) (av:List Nat) (f:FuncId) (xs:List AV):CR:=match E.mt f with
  | true=>bdd F s av f xs
  | false=>match bq0 s (AV.nms xs) with
    | some k=>.need k
    | none=>bdd F s av f xs
def ax6 (E:Env P) (F:aih) (s:AS) (av:List Nat) (f:FuncId) (xs:List AV):CR:=match E.orc f with
  | some g=>match AV.nms xs with
    | k :: _=>.need k
    | []=>match g xs with
      | some e=>match Nat.beq e.f f && axm xs e.xs with
        | true=>match e.H' with
          | (k,some z) :: l=>.ok [] (e.r.pm (tr k (nxt s av))) (pmH (tr k (nxt s av)) e.H')
          | _=>.ok [] e.r e.H'
        | false=>a5y E F s av f xs
      | none=>a5y E F s av f xs
  | none=>a5y E F s av f xs
theorem a07 {F:aih} (hF:F.Ok P) {s:AS} {av:List Nat} {f:FuncId} {xs:List AV} {H H':Hp} {r:AV} (h:bdd F s av f xs = .ok H r H'):Con P f xs H r H' /\ ∀ k z, lk H k = some z -> s.blk k = some z:=by
 unfold bdd at h;simp only at h;split at h
 ·rename_i h1; cases h; exact ⟨hF _ _ _ _ _ _ h1,fun k z hz=>avo hz⟩
 ·cases h
theorem aty {E:Env P} {F:aih} (hF:F.Ok P) {s:AS} {av:List Nat} {f:FuncId} {xs:List AV} {H H':Hp} {r:AV} (h:a5y E F s av f xs = .ok H r H'):Con P f xs H r H' /\ ∀ k z, lk H k = some z -> s.blk k = some z:=by
 unfold a5y at h;split at h
 ·exact a07 hF h
 ·split at h
  ·cases h
  ·exact a07 hF h
theorem al2 {E:Env P} {F:aih} (hF:F.Ok P) {s:AS} {av:List Nat} {f:FuncId} {xs:List AV} {H H':Hp} {r:AV} (h:ax6 E F s av f xs = .ok H r H'):Con P f xs H r H' /\ ∀ k z, lk H k = some z -> s.blk k = some z:=by
 unfold ax6 at h;split at h
 ·split at h
  ·cases h
  ·rename_i hn;split at h
   ·rename_i e he;split at h
    ·rename_i hc;simp only [and_eq_true] at hc;have hf:=eq_of_beq_eq_true hc.1;subst hf;have h9:=Con.subA (a0f hc.2) e.con;split at h
     ·rename_i k z l _;obtain ⟨rfl,rfl,rfl⟩:=CR.ok.inj h;exact ⟨bid h9 hn _ _,fun k z hz=>by cases hz⟩
     ·obtain ⟨rfl, rfl, rfl⟩:=CR.ok.inj h;exact ⟨h9,fun k z hz=>by cases hz⟩
    ·exact aty hF h
   ·exact aty hF h
 ·exact aty hF h
theorem a59 {s:AS} {R:Array Oper} {d q sz cap0:Nat} {a0:Option Addr} {xs:List AV} {x y:Operand} {T E t:TypeId} {ti te:TI} {pos:String} {after:Array Edge}
  (hx:Ev s x (.v (.slice a0 0 0))) (hy:Ev s y (.lst sz xs)) (hT:aak P T = some ti) (hkd:ti.k = .slice E) (hE:aak P E = some te)
  (hsz:te.size = sz) (hz0:(Nat.beq te.zero.length te.size && Nat.blt 0 te.size && Nat.blt 0 te.bytes) = true) (hb:(0 + xs.length) * te.bytes <= 140737488355328) (hdk:Nat.beq d q = false)
  (hN:Nat.blt d N = true) :
  Step P N R s ⟨some d, .call ⟨.builtin .append, #[x, y], #[T, T]⟩, t, pos, after, none⟩
   ⟨some (.ms d sz 0 (0 + xs.length)),[(d,some (.row sz ([] ++ xs))),(q,none)],aan x ++ aan y,[]⟩:=by
 refine ⟨fun s' hag hnew C m a w Q next hC hr hnext=>?_⟩
 have hq:s'.Fresh q:=by
  rcases hnew q (by simp) with h | h
  ·cases h
  ·exact h
 have hd:s'.Fresh d:=by
  rcases hnew d (by simp) with h | h
  ·cases h
  ·exact h
 have hdq:=Nat.ne_of_beq_eq_false hdk;have hx':=hx.agree hag (fun _ h=>List.mem_append.2 (.inl h));have hy':=hy.agree hag (fun _ h=>List.mem_append.2 (.inr h))
 let s2:AS:=⟨s'.sl,(q,some (.row sz [])) :: s'.hp⟩
 have evs:∀ {o:Operand} {z:AV}, Ev s' o z -> Ev s2 o z:=fun h=>by
  cases h with
  | tmp h=>exact .tmp h
  | opt h hb=>exact .opt h hb
  | const c=>exact .const c
  | func f=>exact .func f
 have st:=awj (P:=P) (N:=N) (R:=R) (s:=s2) (d:=d) (k:=q) (t:=t) (pos:=pos) (after:=after) (es:=[]) (evs hx') (fun g S m v h=>Sub.nilMs a0 q sz g S m v h) (by simp [s2,AS.blk,aab]) rfl (evs hy') hT hkd hE hsz hz0 hb hdk hN;refine st.run s2 ⟨fun _ _=>rfl,fun _ _=>rfl⟩ ?_ C _ a w Q next hC (hr.virt sz hq) (fun m' a' w' hr'=>hnext m' a' w' ?_)
 ·intro k hk;simp only [map_cons,List.map_nil,mem_cons,not_mem_nil,or_false] at hk;rcases hk with rfl | rfl
  ·exact .inr (Fresh.row hd hdq (fun h=>h))
  ·exact .inl (by simp)
 ·refine RelM.congr ?_ ?_ hr'
  ·intro t; rfl
  ·intro k;simp only [AS.app,AS.blk,s2,cons_append,nil_append,aab];split
   ·rfl
   ·split <;> rfl
mutual
def a04:AV -> AV -> Bool
  | .v a, y=>match y with
    | .v b=>vEq a b
    | _=>false
  | .lst sz es, y=>match y with
    | .lst sz' es'=>Nat.beq sz sz' && an9 es es'
    | _=>false
  | .agg cs, y=>match y with
    | .agg cs'=>an9 cs cs'
    | _=>false
  | .tup cs, y=>match y with
    | .tup cs'=>an9 cs cs'
    | _=>false
  | .iptr cs, y=>match y with
    | .iptr cs'=>an9 cs cs'
    | _=>false
  | .ms k sz off len, y=>match y with
    | .ms k' sz' off' len'=>Nat.beq k k' && (Nat.beq sz sz' && (Nat.beq off off' && Nat.beq len len'))
    | _=>false
  | .ptr k off, y=>match y with
    | .ptr k' off'=>Nat.beq k k' && Nat.beq off off'
    | _=>false
  | .eptr k sz i off, y=>match y with
    | .eptr k' sz' i' off'=>Nat.beq k k' && (Nat.beq sz sz' && (Nat.beq i i' && Nat.beq off off'))
    | _=>false
  | .fn f cs, y=>match y with
    | .fn f' cs'=>Nat.beq f f' && an9 cs cs'
    | _=>false
  | .opt _ _,_=>false
  | .yl _,_=>false
  | .cl _ _ _,_=>false
def an9:List AV -> List AV -> Bool
  | [], y=>match y with
    | []=>true
    | _=>false
  | x :: l, y=>match y with
    | x' :: l'=>a04 x x' && an9 l l'
    | []=>false
end
mutual
theorem bgb:∀ (x y:AV), a04 x y = true -> x = y
 | .v a,y,h=>by cases y <;> simp [a04] at h; rw [a1b _ _ h]
 | .lst sz es, y, h=>by
  cases y <;> simp only [a04,and_eq_true,Bool.false_eq_true] at h
  rw [eq_of_beq_eq_true h.1,ags _ _ h.2]
 | .agg cs,y,h=>by cases y <;> simp only [a04,Bool.false_eq_true] at h; rw [ags _ _ h]
 | .tup cs,y,h=>by cases y <;> simp only [a04,Bool.false_eq_true] at h; rw [ags _ _ h]
 | .iptr cs,y,h=>by cases y <;> simp only [a04,Bool.false_eq_true] at h; rw [ags _ _ h]
 | .ms k sz off len, y, h=>by
  cases y <;> simp only [a04,and_eq_true,Bool.false_eq_true] at h
  rw [eq_of_beq_eq_true h.1,eq_of_beq_eq_true h.2.1,eq_of_beq_eq_true h.2.2.1,eq_of_beq_eq_true h.2.2.2]
 | .ptr k off, y, h=>by
  cases y <;> simp only [a04,and_eq_true,Bool.false_eq_true] at h
  rw [eq_of_beq_eq_true h.1,eq_of_beq_eq_true h.2]
 | .eptr k sz i off, y, h=>by
  cases y <;> simp only [a04,and_eq_true,Bool.false_eq_true] at h
  rw [eq_of_beq_eq_true h.1,eq_of_beq_eq_true h.2.1,eq_of_beq_eq_true h.2.2.1,eq_of_beq_eq_true h.2.2.2]
 | .fn f cs, y, h=>by
  cases y <;> simp only [a04,and_eq_true,Bool.false_eq_true] at h
  rw [eq_of_beq_eq_true h.1,ags _ _ h.2]
 | .opt ..,y,h=>by simp [a04] at h
 | .yl ..,y,h=>by simp [a04] at h
 | .cl ..,y,h=>by simp [a04] at h
theorem ags:∀ (l l':List AV), an9 l l' = true -> l = l'
 | [],[],h=>rfl
 | [],_ :: _,h=>by simp [an9] at h
 | _ :: _,[],h=>by simp [an9] at h
 | x :: l, x' :: l', h=>by
  simp only [an9,and_eq_true] at h;rw [bgb x x' h.1,ags l l' h.2]
end
def bgf:Blk -> Blk -> Bool
  | .box cs,.box cs'=>an9 cs cs'
  | .row sz es,.row sz' es'=>Nat.beq sz sz' && an9 es es'
  | _,_=>false
theorem bbh {x y:Blk} (h:bgf x y = true):x = y:=by
 cases x <;> cases y <;> simp only [bgf,Bool.false_eq_true] at h
 ·rw [ags _ _ h]
 ·simp only [and_eq_true] at h;rw [eq_of_beq_eq_true h.1,ags _ _ h.2]
theorem aid {k:Nat}:∀ {l:List Nat}, a3x k l = true ↔ k ∈ l
 | []=>by simp [a3x]
 | x :: l=>by
  unfold a3x;split
  ·rename_i h; simp [eq_of_beq_eq_true h]
  ·rename_i h; rw [aid (l:=l)]; simp [Nat.ne_of_beq_eq_false h]
def chg (H:Hp):List Nat -> Hp -> Hp
  | _,[]=>[]
  | seen, (k, x) :: l=>match a3x k seen with
    | true=>chg H seen l
    | false=>match x with
      | some z=>match lk H k with
        | some y=>match bgf y z with
          | true=>chg H (k :: seen) l
          | false=>(k,some z) :: chg H (k :: seen) l
        | none=>(k,some z) :: chg H (k :: seen) l
      | none=>(k,none) :: chg H (k :: seen) l
theorem a6a {H R:Hp} (hR:∀ t y, lk H t = some y -> lk R t = some y):∀ {l:Hp} {seen:List Nat} {t:Nat}, t ∉ seen -> lk (chg H seen l ++ R) t = if t ∈ l.map (·.1) then lk l t else lk R t
 | [],seen,t,h=>by simp [chg]
 | (k, x) :: l, seen, t, h=>by
  have rest:t ≠ k -> lk (chg H (k :: seen) l ++ R) t = if t ∈ ((k, x) :: l).map (·.1) then lk ((k, x) :: l) t else lk R t:=by
   intro hne;rw [a6a hR (fun hh=>by rcases List.mem_cons.1 hh with e | e; exact hne e; exact h e)];simp only [map_cons,mem_cons,hne,false_or];rw [aab,if_neg hne]
  have head:lk ((k, x) :: (chg H (k :: seen) l ++ R)) t = if t ∈ ((k, x) :: l).map (·.1) then lk ((k, x) :: l) t else lk R t:=by
   rw [aab]
   by_cases e:t = k
   ·rw [if_pos e,aab,if_pos e]; simp [e]
   ·rw [if_neg e,rest e]
  unfold chg;split
  ·rename_i hm;have hne:t ≠ k:=fun e=>h (by rw [e]; exact aid.1 hm)
   rw [a6a hR h];simp only [map_cons,mem_cons,hne,false_or];rw [aab,if_neg hne]
  ·split
   ·rename_i z;split
    ·rename_i y hy;split
     ·rename_i he
      by_cases e:t = k
      ·rw [chg_none (by rw [e]; exact mem_cons_self ..), e, hR k y hy, bbh he];simp [aab]
      ·exact rest e
     ·exact head
    ·exact head
   ·exact head
where
 chg_none {H R:Hp}:∀ {l:Hp} {seen:List Nat} {t:Nat}, t ∈ seen -> lk (chg H seen l ++ R) t = lk R t
  | [],seen,t,h=>rfl
  | (k, x) :: l, seen, t, h=>by
   unfold chg;split
   ·exact chg_none h
   ·rename_i hm;have hne:t ≠ k:=fun e=>by rw [e] at h; rw [aid.2 h] at hm; cases hm
    have ih:=chg_none (H:=H) (R:=R) (l:=l) (mem_cons_of_mem k h);split
    ·split
     ·split
      ·exact ih
      ·show lk (_ :: (_ ++ R)) t = _;rw [aab,if_neg hne]; exact ih
     ·show lk (_ :: (_ ++ R)) t = _;rw [aab,if_neg hne]; exact ih
    ·show lk (_ :: (_ ++ R)) t = _;rw [aab,if_neg hne]; exact ih
theorem ata {H:Hp}:∀ {l:Hp} {seen:List Nat} {k:Nat}, k ∈ l.map (·.1) -> k ∉ seen -> k ∈ (chg H seen l).map (·.1) \/ ∃ y, lk H k = some y
 | [],seen,k,h,_=>by simp at h
 | (k', x) :: l, seen, k, h, hs=>by
  unfold chg
  by_cases e:k = k'
  ·subst e
   have hm:a3x k seen = false:=by
    cases hq:a3x k seen with
    | true=>exact absurd (aid.1 hq) hs
    | false=>rfl
   simp only [hm];split
   ·split
    ·rename_i y hy;split
     ·exact .inr ⟨y,hy⟩
     ·exact .inl (by simp)
    ·exact .inl (by simp)
   ·exact .inl (by simp)
  ·have h' : k ∈ l.map (·.1) := by simpa [e] using h
   have hs':k ∉ k' :: seen:=fun hh=>by rcases List.mem_cons.1 hh with e' | e'; exact e e'; exact hs e'
   have ih1:=ata (H:=H) h' hs;have ih2:=ata (H:=H) h' hs';split
   ·exact ih1
   ·split
    ·split
     ·split
      ·exact ih2
      ·rcases ih2 with h | h
       ·exact .inl (mem_cons_of_mem _ h)
       ·exact .inr h
     ·rcases ih2 with h | h
      ·exact .inl (mem_cons_of_mem _ h)
      ·exact .inr h
    ·rcases ih2 with h | h
     ·exact .inl (mem_cons_of_mem _ h)
     ·exact .inr h
theorem ajc {R:Array Oper} {s:AS} {o:Oper} {x:Option AV} {H U:Hp} {rt:List Nat} (hH:∀ k z, lk H k = some z -> s.blk k = some z) (h:Step P N R s o ⟨x, U, rt, H.map (·.1)⟩) :
  Step P N R s o ⟨x,chg H [] U,rt,H.map (·.1)⟩:=by
 refine ⟨fun s' hag hnew C m a w Q next hC hr hnext=>?_⟩;have hH':∀ k z,lk H k = some z -> lk s'.hp k = some z:=fun k z hz=>(hag.2 k (aba hz)).trans (hH k z hz)
 refine h.run s' hag (fun k hk=>?_) C m a w Q next hC hr (fun m' a' w' hr'=>hnext m' a' w' ?_)
 ·rcases ata (H := H) hk (seen := []) (by simp) with h1 | ⟨y, hy⟩
  ·exact hnew k h1
  ·exact .inl (aba hy)
 ·refine RelM.congr (s:=s'.app o.dst ⟨x, U, rt, H.map (·.1)⟩) (fun t=>rfl) (fun k=>?_) hr';simp only [AS.blk,AS.app];rw [a6a hH' (by simp),adf]
variable [Inhabited (Tys P)]
def bpw (P:Program) [Inhabited (Tys P)] (s:AS) (d:Nat) (x y:Operand) (T:TypeId):OR:=match rdC s y with
  | some (.lst sz xs)=>match aif P T with
    | some ti=>match ti.k with
      | .slice E=>match aif P E with
        | some te=>match Nat.beq te.size sz && (Nat.beq te.zero.length te.size && Nat.blt 0 te.size && Nat.blt 0 te.bytes) with
          | true=>match rdC s x with
            | some (.ms k sz' off len)=>match s.blk k with
              | some (.row sz2 es)=>match Nat.beq sz' sz && Nat.beq off 0 && Nat.beq sz2 sz && Nat.beq len es.length && Nat.ble ((len + xs.length) * te.bytes) 140737488355328 with
                | true=>match Nat.beq d k with
                  | true=>.no
                  | false=>match frc (es ++ xs) with
                    | some l=>wN (len + xs.length) fun n=>.ok ⟨some (.ms d sz 0 n),[(d,some (.row sz l)),(k,none)],aan x ++ aan y,[k]⟩
                    | none=>.no
                | false=>.no
              | _=>.no
            | some (.v (.slice a0 0 0))=>match Nat.ble ((0 + xs.length) * te.bytes) 140737488355328 with
              | true=>match Nat.beq d 299 with
                | true=>.no
                | false=>match frc ([] ++ xs) with
                  | some l=>wN (0 + xs.length) fun n=>.ok ⟨some (.ms d sz 0 n),[(d,some (.row sz l)),(299,none)],aan x ++ aan y,[]⟩
                  | none=>.no
              | false=>.no
            | _=>.no
          | false=>.no
        | none=>.no
      | _=>.no
    | none=>.no
  | some (.ms k _ _ _)=>.need k
  | _=>.no
theorem bf9 {s:AS} {R:Array Oper} {d:Nat} {x y:Operand} {T t:TypeId} {u:Out} {pos:String} {after:Array Edge} (h:bpw P s d x y T = .ok u) (hN:Nat.blt d N = true) :
  Step P N R s ⟨some d,.call ⟨.builtin .append,#[x,y],#[T,T]⟩,t,pos,after,none⟩ u:=by
 unfold bpw at h;split at h
 ·rename_i sz xs hy;split at h
  ·rename_i ti hT;split at h
   ·rename_i E hk;split at h
    ·rename_i te hE;split at h
     ·rename_i hc;simp only [and_eq_true] at hc;have hsz:=eq_of_beq_eq_true hc.1;have hz0:(Nat.beq te.zero.length te.size && Nat.blt 0 te.size && Nat.blt 0 te.bytes) = true:=by simp only [and_eq_true]; exact hc.2
      split at h
      ·rename_i k sz' off len hx;split at h
       ·rename_i sz2 es hb;split at h
        ·rename_i hg;simp only [and_eq_true,Nat.ble_eq] at hg;obtain ⟨⟨⟨⟨g1,g2⟩,g3⟩,g4⟩,g5⟩:=hg;cases eq_of_beq_eq_true g1;cases eq_of_beq_eq_true g2;cases eq_of_beq_eq_true g3;split at h
         ·cases h
         ·rename_i hdk;split at h
          ·rename_i l hl;cases agt hl;rw [auk] at h; cases h
           exact aa5 (abh hx) hb (eq_of_beq_eq_true g4) (abh hy) (aax hT) hk (aax hE) hsz hz0 g5 hdk hN
          ·cases h
        ·cases h
       ·cases h
      ·rename_i a0 hx;split at h
       ·rename_i g5;rw [Nat.ble_eq] at g5;split at h
        ·cases h
        ·rename_i hdk;split at h
         ·rename_i l hl;cases agt hl;rw [auk] at h; cases h
          exact a59 (cap0:=0) (abh hx) (abh hy) (aax hT) hk (aax hE) hsz hz0 g5 hdk hN
         ·cases h
       ·cases h
      ·cases h
     ·cases h
    ·cases h
   ·cases h
  ·cases h
 ·cases h
 ·cases h
def bo0 (P:Program) [Inhabited (Tys P)] (s:AS) (T:TypeId) (x y:Operand):OR:=match rdC s x with
  | some (.eptr k sz i off)=>match rdC s y with
    | some v=>match v.nm with
      | k' :: _=>.need k'
      | []=>match s.blk k with
        | some (.row sz' es)=>match es[i]? with
          | some e=>match aif P T with
            | some ti=>match Nat.beq sz sz' && v.ok && Nat.beq v.cells.length ti.size && Nat.ble (off + ti.size) e.cells.length with
              | true=>match e with
                | .agg cs=>match frc (over cs off v.cells) with
                  | some l=>match frc (es.set i (.agg l)) with
                    | some es'=>.ok ⟨none,[(k,some (.row sz es'))],aan x ++ aan y,[k]⟩
                    | none=>.no
                  | none=>.no
                | e=>match Nat.beq off 0 && Nat.beq v.cells.length 1 with
                  | true=>match frc (es.set i v) with
                    | some es'=>.ok ⟨none,[(k,some (.row sz es'))],aan x ++ aan y,[k]⟩
                    | none=>.no
                  | false=>.no
              | false=>.no
            | none=>.no
          | none=>.no
        | _=>.no
    | none=>.no
  | _=>.no
theorem a21 {e:AV} (h:∀ cs, e ≠ .agg cs):e.cells = [e]:=by
 cases e <;> first | rfl | exact absurd rfl (h _)
theorem bgi {s:AS} {R:Array Oper} {x y:Operand} {T t:TypeId} {u:Out} {pos:String} {after:Array Edge} (h:bo0 P s T x y = .ok u) :
  Step P N R s ⟨none,.store T x y,t,pos,after,none⟩ u:=by
 unfold bo0 at h;split at h
 ·rename_i k sz i off hx;split at h
  ·rename_i v hy;split at h
   ·cases h
   ·rename_i hnm;split at h
    ·rename_i sz' es hb;split at h
     ·rename_i e he;split at h
      ·rename_i ti hT;split at h
       ·rename_i hc;simp only [and_eq_true] at hc;obtain ⟨⟨⟨c1,c2⟩,c3⟩,c4⟩:=hc;cases eq_of_beq_eq_true c1;split at h
        ·rename_i cs;split at h
         ·rename_i l hl;split at h
          ·rename_i es' hes;cases h;cases agt hl;cases agt hes;exact aig (abh hx) hb he (abh hy) c2 hnm (aax hT) c3 c4 rfl
          ·cases h
         ·cases h
        ·rename_i hne;split at h
         ·rename_i hg;simp only [and_eq_true] at hg;split at h
          ·rename_i es' hes;cases h;cases agt hes;cases eq_of_beq_eq_true hg.1;refine aig (abh hx) hb he (abh hy) c2 hnm (aax hT) c3 c4 ?_;rw [a21 hne];have:=eq_of_beq_eq_true hg.2;simp [over,this]
          ·cases h
         ·cases h
       ·cases h
      ·cases h
     ·cases h
    ·cases h
  ·cases h
 ·cases h
def mkS (P:Program) [Inhabited (Tys P)] (d:Nat) (T:TypeId) (n:Int) (rt:List Nat):OR:=match aif P T with
  | some ti=>match ti.k with
    | .slice E=>match aif P E with
      | some te=>match te.zero.all Value.oneCell' && (Nat.beq te.zero.length te.size && Nat.blt 0 te.size && Nat.blt 0 te.bytes && (te.ag || Nat.beq te.size 1)) with
        | true=>match n with
          | .ofNat n=>match Nat.ble (n * te.bytes) 281474976710656 with
            | true=>match frc (List.replicate n (mkT te.ag (te.zero.map .v))) with
              | some l=>.ok ⟨some (.ms d te.size 0 n),[(d,some (.row te.size l))],rt,[]⟩
              | none=>.no
            | false=>.no
          | .negSucc _=>.no
        | false=>.no
      | none=>.no
    | _=>.no
  | none=>.no
theorem bjj {s:AS} {R:Array Oper} {d:Nat} {x:Operand} {T t:TypeId} {n:Int} {u:Out} {pos:String} {after:Array Edge} (hx:Ev s x (.v (.int .i64 n))) (h:mkS P d T n (aan x) = .ok u) (hN:Nat.blt d N = true) :
  Step P N R s ⟨some d,.makeSlice T x x,t,pos,after,none⟩ u:=by
 unfold mkS at h;split at h
 ·rename_i ti hT;split at h
  ·rename_i E hk;split at h
   ·rename_i te hE;split at h
    ·rename_i hc;rw [and_eq_true] at hc;split at h
     ·rename_i n;split at h
      ·rename_i hb;rw [Nat.ble_eq] at hb;split at h
       ·rename_i l hl;cases h;cases agt hl;exact afq (n:=Int.ofNat n) hx (aax hT) hk (aax hE) hc.1 hc.2 (Int.natCast_nonneg _) (by simp only [Int.ofNat_eq_natCast]; omega) hN
       ·cases h
      ·cases h
     ·cases h
    ·cases h
   ·cases h
  ·cases h
 ·cases h
theorem bg7 {P:Program} {N:Nat} {s:AS} {R:Array Oper} {d f:Nat} {g:Operand} {args:Array Operand} {ts:Array TypeId} {xs:List AV} {H H':Hp} {r:AV} {t:TypeId} {pos:String} {after:Array Edge}
  (hg:Ev s g (.v (.func (.func f) #[] #[]))) (hcon:Con P f xs H r H') (ha:EvL s args.toList xs) (hH:∀ k z,lk H k = some z -> s.blk k = some z) (hok:ac3 s H H' r = true) (hN:Nat.blt d N = true) :
  Step P N R s ⟨some d,.call ⟨.value g,args,ts⟩,t,pos,after,none⟩ ⟨some r,H' ++ ajd H,aan g ++ rtL args.toList,H.map (·.1)⟩ :=
 ajg rfl (fun d' h => by cases h; exact ⟨hN, rfl⟩) hcon hH hok fun s' hag C m a w hr => by
  have hag':ac8 s s' ⟨none,[],aan g ++ rtL args.toList,[]⟩:=⟨hag,fun k hk=>by cases hk⟩
  have ha':=ha.agree hag' (fun _ h=>List.mem_append.2 (.inr h));have hgr:=(hg.agree hag' (fun _ h=>List.mem_append.2 (.inl h))).rep hr;generalize hv:a.eval g = u at hgr;cases hgr;refine ⟨args.map a.eval,ar6 (caps:=#[]) rfl hv hcon.ok (by simp),?_,?_⟩
  ·have:=ha'.length; simpa using this
  ·intro j v x hv hx; exact ha'.rep hr j v x (by simpa using hv) hx
def bfp:Operand -> Operand -> Bool
  | .tmp a,.tmp b=>Nat.beq a b
  | .const (.int k a),.const (.int k' b)=>Nat.beq (ikn k) (ikn k') && aaa .eql a b
  | _,_=>false
theorem bcq {x y:Operand} (h:bfp x y = true):y = x:=by
 unfold bfp at h;split at h
 ·rw [eq_of_beq_eq_true h]
 ·rename_i k a k' b;simp only [and_eq_true] at h;rw [aia h.1,eq_of_beq (show (a == b) = true from h.2)]
 ·cases h
def opD (E:Env P) (F:aih) (av:List Nat) (s:AS) (d:Nat) (op:Op):OR:=match op with
  | .call c=>match c with
    | ⟨.value g, args, ts⟩=>match bi3 s args.toList with
      | some xs=>match g with
        | .func f=>match ax6 E F s av f xs with
          | .ok H r H'=>match ac3 s H H' r with
            | true=>.ok ⟨some r,chg H [] (H' ++ ajd H),rtL args.toList,H.map (·.1)⟩
            | false=>.no
          | .need k=>.need k
          | .no=>.no
        | g=>match rdC s g with
          | some (.fn f caps)=>match ax6 E F s av f (xs ++ caps) with
            | .ok H r H'=>match ac3 s H H' r with
              | true=>.ok ⟨some r,chg H [] (H' ++ ajd H),aan g ++ rtL args.toList,H.map (·.1)⟩
              | false=>.no
            | .need k=>.need k
            | .no=>.no
          | some (.v (.func (.func f) ⟨[]⟩ ⟨[]⟩))=>match ax6 E F s av f xs with
            | .ok H r H'=>match ac3 s H H' r with
              | true=>.ok ⟨some r,chg H [] (H' ++ ajd H),aan g ++ rtL args.toList,H.map (·.1)⟩
              | false=>.no
            | .need k=>.need k
            | .no=>.no
          | some (.cl f pre caps)=>match ax6 E F s av f (pre ++ xs ++ caps) with
            | .ok H r H'=>match ac3 s H H' r with
              | true=>.ok ⟨some r,chg H [] (H' ++ ajd H),aan g ++ rtL args.toList,H.map (·.1)⟩
              | false=>.no
            | .need k=>.need k
            | .no=>.no
          | _=>.no
      | none=>.no
    | ⟨.builtin .append, args, ts⟩=>match args.toList with
      | [x, y]=>match ts.toList with
        | [T, T']=>match Nat.beq T T' with
          | true=>bpw P s d x y T
          | false=>.no
        | _=>.no
      | _=>.no
    | c=>match opV P s (.call c) with
      | some r=>.ok ⟨some r.x,[],r.rt,r.rd⟩
      | none=>.no
  | .makeSlice T x y=>match bfp x y with
    | true=>match rdC s x with
      | some (.v (.int .i64 n))=>mkS P d T n (aan x)
      | _=>.no
    | false=>.no
  | .slice T x none (some (.const (.int k1 (.ofNat 0)))) (some (.const (.int k2 (.ofNat 0))))=>match rdC s x with
    | some (.lst sz es)=>match bis P T sz with
      | true=>.ok ⟨some (.ms d sz 0 0),[(d,some (.row sz []))],aan x,[]⟩
      | false=>.no
    | _=>.no
  | .buildSlice T n parts=>match n with
    | 0=>match parts.toList with
      | []=>match aif P T with
        | some ti=>match ti.k with
          | .slice E=>match aif P E with
            | some te=>match te.zero.all Value.oneCell' && Nat.beq te.zero.length te.size with
              | true=>.ok ⟨some (.ms d te.size 0 0),[(d,some (.row te.size []))],[],[]⟩
              | false=>.no
            | none=>.no
          | _=>.no
        | none=>.no
      | _=>.no
    | n + 1=>match opV P s (.buildSlice T (n + 1) parts) with
      | some r=>.ok ⟨some r.x,[],r.rt,r.rd⟩
      | none=>match bi3 s (parts.toList.map (·.2)) with
        | some xs=>match AV.nms xs with
          | k :: _=>.need k
          | []=>.no
        | none=>.no
  | op=>match opV P s op with
    | some r=>.ok ⟨some r.x,[],r.rt,r.rd⟩
    | none=>match bom P s d op with
      | some r=>match r.2 with
        | []=>.ok r.1
        | _=>.no
      | none=>.no
theorem bd9 {E:Env P} {F:aih} (hF:F.Ok P) {av:List Nat} {s:AS} {R:Array Oper} {d:Nat} {op:Op} {u:Out} {t:TypeId} {pos:String} {after:Array Edge} (h:opD E F av s d op = .ok u) (hN:Nat.blt d N = true) :
  Step P N R s ⟨some d,op,t,pos,after,none⟩ u:=by
 unfold opD at h;split at h
 ·split at h
  ·rename_i g args ts;split at h
   ·rename_i xs hxs;split at h
    ·rename_i f;split at h
     ·rename_i H r H' hc;split at h
      ·rename_i hok;cases h;obtain ⟨h1,h2⟩:=al2 hF hc;exact ajc h2 (aad h1 (amk hxs) h2 hok hN)
      ·cases h
     ·cases h
     ·cases h
    ·split at h
     ·rename_i f caps hg;split at h
      ·rename_i H r H' hc;split at h
       ·rename_i hok;cases h;obtain ⟨h1,h2⟩:=al2 hF hc;exact ajc h2 (a6z (abh hg) h1 (amk hxs) h2 hok hN)
       ·cases h
      ·cases h
      ·cases h
     ·rename_i f hg;split at h
      ·rename_i H r H' hc;split at h
       ·rename_i hok;cases h;obtain ⟨h1,h2⟩:=al2 hF hc;exact ajc h2 (bg7 (abh hg) h1 (amk hxs) h2 hok hN)
       ·cases h
      ·cases h
      ·cases h
     ·rename_i f pre caps hg;split at h
      ·rename_i H r H' hc;split at h
       ·rename_i hok;cases h;obtain ⟨h1,h2⟩:=al2 hF hc;exact ajc h2 (a63 (abh hg) h1 (amk hxs) h2 hok hN)
       ·cases h
      ·cases h
      ·cases h
     ·cases h
   ·cases h
  ·rename_i args ts;split at h
   ·rename_i x y hx;split at h
    ·rename_i T T' hT;split at h
     ·rename_i hTT;cases eq_of_beq_eq_true hTT;have e1:args = #[x,y]:=by apply Array.toList_inj.1; simpa using hx
      have e2:ts = #[T,T]:=by apply Array.toList_inj.1; simpa using hT
      subst e1; subst e2
      exact bf9 h hN
     ·cases h
    ·cases h
   ·cases h
  ·split at h
   ·rename_i h1; cases h; exact a9v h1 hN
   ·cases h
 ·split at h
  ·rename_i he;cases bcq he;split at h
   ·rename_i hx; exact bjj (abh hx) h hN
   ·cases h
  ·cases h
 ·split at h
  ·rename_i hx;split at h
   ·rename_i hs;obtain ⟨ti,E,te,h1,h2,h3,h4⟩:=aqn hs;cases h;exact a7a (abh hx) h1 h2 h3 h4 hN
   ·cases h
  ·cases h
 ·rename_i T n parts;split at h
  ·split at h
   ·rename_i hp;have:parts = #[]:=by apply Array.toList_inj.1; simpa using hp
    subst this;split at h
    ·rename_i ti hT;split at h
     ·rename_i E hk;split at h
      ·rename_i te hE;split at h
       ·rename_i hc;rw [and_eq_true] at hc;cases h;exact acp (aax hT) hk (aax hE) hc.1 hc.2 hN
       ·cases h
      ·cases h
     ·cases h
    ·cases h
   ·cases h
  ·split at h
   ·rename_i h1; cases h; exact a9v h1 hN
   ·split at h
    ·split at h <;> cases h
    ·cases h
 ·split at h
  ·rename_i h1; cases h; exact a9v h1 hN
  ·split at h
   ·rename_i h1;split at h
    ·rename_i ho; cases h; exact a5g h1 (by rw [ho]; exact .nil) hN
    ·cases h
   ·cases h
def opN (E:Env P) (F:aih) (av:List Nat) (s:AS) (op:Op):OR:=match op with
  | .call c=>match c with
    | ⟨.value (.func f), args, ts⟩=>match bi3 s args.toList with
      | some xs=>match ax6 E F s av f xs with
        | .ok H r H'=>match ac3 s H H' r with
          | true=>.ok ⟨none,chg H [] (H' ++ ajd H),rtL args.toList,H.map (·.1)⟩
          | false=>.no
        | .need k=>.need k
        | .no=>.no
      | none=>.no
    | _=>.no
  | .store T x y=>match bod P s (.store T x y) with
    | some r=>match r.2 with
      | []=>.ok r.1
      | _=>.no
    | none=>bo0 P s T x y
  | _=>.no
theorem blh {E:Env P} {F:aih} (hF:F.Ok P) {av:List Nat} {s:AS} {R:Array Oper} {op:Op} {u:Out} {t:TypeId} {pos:String} {after:Array Edge} (h:opN E F av s op = .ok u) :
  Step P N R s ⟨none,op,t,pos,after,none⟩ u:=by
 unfold opN at h;split at h
 ·split at h
  ·rename_i f args ts;split at h
   ·rename_i xs hxs;split at h
    ·rename_i H r H' hc;split at h
     ·rename_i hok;cases h;obtain ⟨h1,h2⟩:=al2 hF hc;exact ajc h2 (bc6 h1 (amk hxs) h2 hok)
     ·cases h
    ·cases h
    ·cases h
   ·cases h
  ·cases h
 ·split at h
  ·rename_i h1;split at h
   ·rename_i ho; cases h; exact a8o h1 (by rw [ho]; exact .nil)
   ·cases h
  ·exact bgi h
 ·cases h
theorem Step.sub {P:Program} {N:Nat} {R:Array Oper} {s:AS} {o:Oper} {x y:AV} {upd:Hp} {rt rd:List Nat} (h:Step P N R s o ⟨some x, upd, rt, rd⟩) (hs:Sub x y):Step P N R s o ⟨some y, upd, rt, rd⟩:=by
 refine ⟨fun s' hag hnew C m a w Q next hC hr hnext=>h.run s' hag hnew C m a w Q next hC hr (fun m' a' w' hr'=>hnext m' a' w' ?_)⟩;refine hr'.weak (fun t z hz=>?_) (fun k z hz=>⟨z,hz,.refl _⟩);rw [adj] at hz;split at hz
 ·rename_i ht; cases hz; exact ⟨x,by rw [adj,if_pos ht],hs⟩
 ·rename_i ht; exact ⟨z,by rw [adj,if_neg ht]; exact hz,.refl _⟩
theorem Sub.opt_true (x:AV):Sub (.opt true x) x:=fun g S m v h=>by cases h with | opt h _=>exact h rfl
theorem amp (f:AV -> AV) (k:Nat):∀ l:Hp, (agq f k l).map (·.1) = l.map (·.1)
 | []=>rfl
 | (k',x) :: l=>by simp only [agq,map_cons,amp f k l]
theorem a8n {P:Program} {N:Nat} {R:Array Oper} {s:AS} {o:Oper} {d:Nat} {x:AV} {upd:Hp} {rt rd:List Nat} {k sz:Nat} {es:List AV} (hd:o.dst = some d) (hk:lk upd k = some (.row sz es)) (hrd:k ∉ rd)
  (h:Step P N R s o ⟨some x,upd,rt,rd⟩):Step P N R s o ⟨some (x.fz k sz es),agq (AV.fz k sz es) k upd,rt,rd⟩:=by
 refine ⟨fun s' hag hnew C m a w Q next hC hr hnext=>?_⟩;have hnew':alx s' ⟨some x,upd,rt,rd⟩:=fun k' hk'=>hnew k' (by rw [amp]; exact hk')
 have hfr:s'.Fresh k:=by
  rcases hnew' k (aba hk) with h | h
  ·exact absurd h hrd
  ·exact h
 refine h.run s' hag hnew' C m a w Q next hC hr (fun m' a' w' hr'=>?_);rw [hd] at hr'
 have hkk:(s'.app (some d) ⟨some x, upd, rt, rd⟩).blk k = some (.row sz es):=by
  show lk (upd ++ s'.hp) k = _;rw [adf,if_pos (aba hk),hk]
 obtain ⟨m2,hr2⟩:=Wk.freeze hkk C m' a' w' hr';refine hnext m2 a' w' ?_;rw [hd];refine hr2.congr ?_ ?_
 ·intro t;simp only [AS.get,agu,AS.app,aab];split
  ·rfl
  ·cases hx:lk s'.sl t with
   | none=>rfl
   | some y=>simp only [Option.map_some]; rw [AV.fz_id _ _ _ _ (hfr.2.2.1 t y hx)]
 ·intro k';simp only [AS.blk,AS.app];rw [aew,adf,adf,amp,aew]
  by_cases h1:k' = k
  ·subst h1;rw [if_pos rfl,if_pos (aba hk),if_pos rfl]
  ·rw [if_neg h1, if_neg h1];split
   ·rfl
   ·cases hx:lk s'.hp k' with
    | none=>rfl
    | some y=>simp only [Option.map_some]; rw [am9 (hfr.2.2.2 k' y hx)]
def biu:List Nat -> Out -> Out
  | [],u=>u
  | k :: ks, u=>match u.val with
    | some x=>match lk u.upd k with
      | some (.row sz es)=>match a3x k u.rd with
        | false=>biu ks ⟨some (x.fz k sz es),agq (AV.fz k sz es) k u.upd,u.rt,u.rd⟩
        | true=>biu ks u
      | _=>biu ks u
    | none=>u
theorem apt {P:Program} {N:Nat} {R:Array Oper} {s:AS} {o:Oper} {d:Nat} (hd:o.dst = some d):∀ {ks:List Nat} {u:Out}, Step P N R s o u -> Step P N R s o (biu ks u)
 | [],u,h=>h
 | k :: ks, u, h=>by
  unfold biu;split
  ·rename_i x hx;split
   ·rename_i sz es hk;split
    ·rename_i hm;refine apt hd ?_;obtain ⟨val,upd,rt,rd⟩:=u;simp only at hx hk hm;subst hx;exact a8n hd hk (fun hh=>by rw [aid.2 hh] at hm; cases hm) h
    ·exact apt hd h
   ·exact apt hd h
  ·exact h
def opE (E:Env P) (F:aih) (av fz:List Nat) (N:Nat) (R:List Oper) (s:AS) (o:Oper):OR:=match o.guard with
  | none=>match o.dst with
    | some d=>match Nat.blt d N with
      | true=>match opD E F av s d o.op with
        | .ok u=>.ok (biu fz u)
        | r=>r
      | false=>.no
    | none=>opN E F av s o.op
  | some (j, want)=>match R[j]? with
    | some og=>match og.dst with
      | some g=>match o.dst with
        | some d=>match Nat.blt d N with
          | true=>match s.get g with
            | some (.v (.bool b))=>match b == want with
              | true=>match opD E F av s d o.op with
                | .ok u=>match (biu fz u) with
                  | ⟨some x,upd,rt,rd⟩=>.ok ⟨some x,upd,g :: rt,rd⟩
                  | ⟨none,_,_,_⟩=>.no
                | r=>r
              | false=>.ok ⟨some (.opt false (.v (.bool false))),[],[g],[]⟩
            | some (.opt false (.v (.bool b)))=>.ok ⟨some (.opt false (.v (.bool false))),[],[g],[]⟩
            | _=>.no
          | false=>.no
        | none=>.no
      | none=>.no
    | none=>.no
theorem bnu {E:Env P} {F:aih} (hF:F.Ok P) {av fz:List Nat} {R:List Oper} {s:AS} {o:Oper} {u:Out} (h:opE E F av fz N R s o = .ok u):Step P N R.toArray s o u:=by
 obtain ⟨dst,op,ty,pos,after,guard⟩:=o;unfold opE at h;simp only at h;split at h
 ·split at h
  ·split at h
   ·rename_i hN;split at h
    ·rename_i u' h1; cases h; exact apt rfl (bd9 hF h1 hN)
    ·rename_i hno; exact absurd h (hno u)
   ·cases h
  ·exact blh hF h
 ·rename_i j want;split at h
  ·rename_i og hog;split at h
   ·rename_i g hg;split at h
    ·rename_i d;split at h
     ·rename_i hN;have hj:(R.toArray[j]?).bind (·.dst) = some g:=by simp [hog,hg]
      split at h
      ·rename_i b hb;split at h
       ·rename_i hw;split at h
        ·rename_i u' h1;have hs:=apt (ks:=fz) rfl (bd9 (R:=R.toArray) (t:=ty) (pos:=pos) (after:=after) hF h1 hN);split at h
         ·rename_i x upd rt rd hx;cases h;rw [hx] at hs;have h2:=a06 (want:=want) hj hb hN (fun hne=>absurd (eq_of_beq hw) hne) (fun _=>hs);rw [hw] at h2;exact h2.sub (.opt_true x)
         ·cases h
        ·rename_i hno; exact absurd h (hno u)
       ·rename_i hw;cases h;have h2:=abx (P:=P) (op:=op) (t:=ty) (pos:=pos) (after:=after) (want:=want) (x:=.v (.bool false)) (rt:=[]) (rd:=[]) hj hb hN (fun e=>by rw [e] at hw; simp at hw);rw [hw] at h2;exact h2
      ·rename_i b hb;cases h;exact ah2 (P:=P) (op:=op) (t:=ty) (pos:=pos) (after:=after) (want:=want) (x:=.v (.bool false)) (rt:=[]) (rd:=[]) hj hb hN (fun e=>by cases e)
      ·cases h
     ·cases h
    ·cases h
   ·cases h
  ·cases h
end Go.Lw
namespace Go.Lw
variable {P:Program} {N:Nat} [Inhabited (Tys P)]
theorem a7g {P:Program} {N:Nat} {c:Code} {Q Q':Exit -> AS -> Prop} {s:AS} (h:AWP P N c Q s) (hq:∀ e s, Q e s -> ∃ s', Wk s s' /\ Q' e s'):AWP P N c Q' s :=
 fun C m a w n hN hr=>wpIn_mono (h C m a w n hN hr) fun e _ _ ⟨s', m', hQ, hr'⟩=>by
  obtain ⟨s2,hw,hQ'⟩:=hq e s' hQ;obtain ⟨m2,hr2⟩:=hw C m' _ _ hr';exact ⟨s2,m2,hQ',hr2⟩
def dd {α:Type}:List Nat -> List (Nat × Option α) -> List (Nat × Option α)
  | _,[]=>[]
  | seen, (t, x) :: l=>match a3x t seen with
    | true=>dd seen l
    | false=>match x with
      | some v=>(t,some v) :: dd (t :: seen) l
      | none=>dd (t :: seen) l
theorem a82 {α:Type}:∀ {l:List (Nat × Option α)} {seen:List Nat} {t:Nat} {x:α}, lk (dd seen l) t = some x -> t ∉ seen /\ lk l t = some x
 | [],seen,t,x,h=>by cases h
 | (t', y) :: l, seen, t, x, h=>by
  unfold dd at h;rw [aab];split at h
  ·rename_i hm;obtain ⟨h1,h2⟩:=a82 h;refine ⟨h1,?_⟩;rw [if_neg (fun (e:t = t')=>h1 (by rw [e]; exact aid.1 hm))]; exact h2
  ·rename_i hm;have hm':t' ∉ seen:=fun hh=>by rw [aid.2 hh] at hm; cases hm
   split at h
   ·rw [aab] at h;split at h
    ·rename_i e; cases h; subst e; exact ⟨hm',by rw [if_pos rfl]⟩
    ·rename_i e;obtain ⟨h1,h2⟩:=a82 h;rw [if_neg e];exact ⟨fun hh=>h1 (mem_cons_of_mem _ hh),h2⟩
   ·obtain ⟨h1, h2⟩:=a82 h;have hne:t ≠ t':=fun e=>h1 (by rw [e]; exact mem_cons_self ..)
    rw [if_neg hne];exact ⟨fun hh=>h1 (mem_cons_of_mem _ hh),h2⟩
theorem axo {s:AS} {sl:abw} {hp:Hp} (h1:∀ t x, lk sl t = some x -> lk s.sl t = some x) (h2:∀ k x, lk hp k = some x -> lk s.hp k = some x):Wk s ⟨sl, hp⟩ :=
 fun C m a w hr=>⟨m,hr.weak (fun t x hx=>⟨x,h1 t x hx,.refl _⟩) (fun k x hx=>⟨x,h2 k x hx,.refl _⟩)⟩
def ddS (s:AS):AS:=⟨dd [] s.sl,dd [] s.hp⟩
theorem bqs (s:AS):Wk s (ddS s):=axo (fun t x h=>(a82 h).2) (fun t x h=>(a82 h).2)
def noK (k:Nat):List Nat -> abw -> abw
  | _,[]=>[]
  | seen, (t, x) :: l=>match a3x t seen with
    | true=>noK k seen l
    | false=>match x with
      | some v=>match a3x k v.nm with
        | true=>noK k (t :: seen) l
        | false=>(t,some v) :: noK k (t :: seen) l
      | none=>noK k (t :: seen) l
theorem a08 {k:Nat}:∀ {l:abw} {seen:List Nat} {t:Nat} {x:AV}, lk (noK k seen l) t = some x -> t ∉ seen /\ lk l t = some x
 | [],seen,t,x,h=>by cases h
 | (t', y) :: l, seen, t, x, h=>by
  unfold noK at h;rw [aab]
  have rest:∀ {l':abw}, lk (noK k (t' :: seen) l) t = some x -> t ∉ seen /\ (if t = t' then y else lk l t) = some x:=by
   intro _ h;obtain ⟨h1,h2⟩:=a08 h;rw [if_neg (fun (e:t = t')=>h1 (by rw [e]; exact mem_cons_self ..))];exact ⟨fun hh=>h1 (mem_cons_of_mem _ hh),h2⟩
  split at h
  ·rename_i hm;obtain ⟨h1,h2⟩:=a08 h;refine ⟨h1,?_⟩;rw [if_neg (fun (e:t = t')=>h1 (by rw [e]; exact aid.1 hm))]; exact h2
  ·rename_i hm;have hm':t' ∉ seen:=fun hh=>by rw [aid.2 hh] at hm; cases hm
   split at h
   ·split at h
    ·exact rest (l':=l) h
    ·rw [aab] at h;split at h
     ·rename_i e; cases h; subst e; exact ⟨hm',by rw [if_pos rfl]⟩
     ·rename_i e;obtain ⟨h1,h2⟩:=a08 h;rw [if_neg e];exact ⟨fun hh=>h1 (mem_cons_of_mem _ hh),h2⟩
   ·exact rest (l':=l) h
def bq1 (s:AS) (k d:Nat) (y:Blk):AS:=⟨akp (AV.rn k d) s.sl,aud k d y s.hp⟩
def bo6 (s:AS) (av:List Nat) (d:Nat):Option AS:=match s.freshB d with
  | true=>some s
  | false=>match s.blk d with
    | some y=>match s.freshB (nxt s av) with
      | true=>some (bq1 s d (nxt s av) y)
      | false=>none
    | none=>some ⟨noK d [] s.sl,s.hp⟩
theorem bh3 {s s':AS} {av:List Nat} {d:Nat} (h:bo6 s av d = some s'):Wk s s':=by
 unfold bo6 at h;split at h
 ·cases h; exact .refl _
 ·split at h
  ·rename_i y hy;split at h
   ·rename_i hf; cases h; exact Wk.rekey hy hf
   ·cases h
  ·cases h; exact axo (fun t x h=>(a08 h).2) (fun _ _ h=>h)
def bq9 (o:Oper):Option Nat:=match o.dst with
  | some d=>match o.op with
    | .alloc _=>some d
    | .box _ _=>some d
    | .makeSlice _ _ _=>some d
    | .buildSlice _ 0 _=>some d
    | .slice _ _ _ _ (some _)=>some d
    | .call ⟨.builtin .append,_,_⟩=>some d
    | _=>none
  | none=>none
def bj2 (av:List Nat):List Oper -> AS -> Option AS
  | [],s=>some s
  | o :: os, s=>match bq9 o with
    | some d=>match bo6 s av d with
      | some s'=>bj2 av os s'
      | none=>none
    | none=>bj2 av os s
theorem azf {av:List Nat}:∀ {os:List Oper} {s s':AS}, bj2 av os s = some s' -> Wk s s'
 | [],s,s',h=>by cases h; exact .refl _
 | o :: os, s, s', h=>by
  unfold bj2 at h;split at h
  ·split at h
   ·rename_i h1; exact (bh3 h1).trans (azf h)
   ·cases h
  ·exact azf h
inductive RR where
  | ok (s:AS) (us:List Out)
  | need (k:Nat)
  | no
def nB {α:Type}:List α -> Bool
  | []=>true
  | _=>false
def bok (E:Env P) (F:aih) (av fz:List Nat) (N:Nat) (R:List Oper):List Oper -> AS -> List Out -> RR
  | [],s,us=>.ok s us
  | o :: os, s, us=>match opE E F av fz N R s o with
    | .ok u=>match nB u.upd || a7e s u with
      | true=>match s.app o.dst u with
        | ⟨sl,hp⟩=>bok E F av fz N R os ⟨sl,hp⟩ (us ++ [u])
      | false=>.no
    | .need k=>.need k
    | .no=>.no
theorem a9k {E:Env P} {F:aih} (hF:F.Ok P) {av fz:List Nat} {R:List Oper}:∀ {os:List Oper} {s:AS} {us:List Out} {s':AS} {us':List Out}, bok E F av fz N R os s us = .ok s' us' ->
  auh P N R.toArray os s us (fun s2 us2=>s2 = s' /\ us2 = us')
 | [],s,us,s',us',h=>by cases h; exact ⟨rfl,rfl⟩
 | o :: os, s, us, s', us', h=>by
  unfold bok at h;split at h
  ·rename_i u hu;split at h
   ·rename_i hn;refine ⟨u,bnu hF hu,?_,a9k hF h⟩;cases hu':nB u.upd with
    | true =>
     intro k hk;have:u.upd = []:=by cases hq:u.upd with | nil=>rfl | cons a b=>rw [hq] at hu'; cases hu'
     rw [this] at hk; cases hk
    | false=>rw [hu'] at hn; exact al7 hn
   ·cases h
  ·cases h
  ·cases h
structure Sys where
  code:Nat -> Nat -> List Nat -> Code -> AS -> Option (Exit × AS)
  fn:Nat -> List Nat -> FuncId -> List AV -> Hp -> Option (AV × Hp)
def trF (S:Sys) (base:Nat):aih:=fun av f xs H=>match bq5 base (H.map (·.1)) with
  | L=>match S.fn (base + 100) av f (tA L xs) (tH L H) with
    | some (r,H')=>some (rB L r,hB L H')
    | none=>none
def isR (e:Exit):Bool:=match e with
  | .normal=>true
  | _=>false
def bp1 (s:AS) (k:Nat):Option AS:=match s.blk k with
  | some (.row sz es)=>some ⟨akp (AV.fz k sz es) s.sl,agq (AV.fz k sz es) k s.hp⟩
  | _=>none
theorem bgz {s s':AS} {k:Nat} (h:bp1 s k = some s'):Wk s s':=by
 unfold bp1 at h;split at h
 ·rename_i hk; cases h; exact Wk.freeze hk
 ·cases h
def bn7 (E:Env P) (F:aih) (av:List Nat) (N:Nat) (A:List Oper) (d:Bool):Nat -> List Nat -> AS -> Option AS
  | 0,_,_=>none
  | n + 1, fz, s0=>match bok E F av fz N A A s0 [] with
    | .ok s' us=>match d with
      | false=>some s'
      | true=>match chk A us s0 with
        | true=>some s'
        | false=>none
    | .need k=>match bp1 s0 k with
      | some ⟨sl,hp⟩=>bn7 E F av N A d n fz ⟨sl,hp⟩
      | none=>match a3x k fz with
        | true=>none
        | false=>bn7 E F av N A d n (k :: fz) s0
    | .no=>none
theorem ax0 {E:Env P} {F:aih} (hF:F.Ok P) {av:List Nat} {id:Nat} {A:Array Oper} {d:Bool} (hnd:A.toList.all nd = true):∀ {n:Nat} {fz:List Nat} {s s1:AS}, bn7 E F av N A.toList d n fz s = some s1 ->
  AWP P N (.region id A d) (fun e' s'=>e' = .normal /\ s' = s1) s
 | 0,fz,s,s1,h=>by cases h
 | n + 1, fz, s, s1, h=>by
  unfold bn7 at h;split at h
  ·rename_i s' us h1;refine a68 (Q:=fun e' s'=>e' = .normal /\ s' = s1) (k:=[]) hnd (fun _=>(default:Tys P).mix) (amh ?_ (a9k hF h1));rintro s2 us2 ⟨hs,hu⟩;rw [hs,hu];split at h
   ·obtain rfl:=Option.some.inj h;exact ⟨(fun e=>by cases e),rfl,rfl⟩
   ·split at h
    ·rename_i hc;obtain rfl:=Option.some.inj h;exact ⟨fun _=>hc,rfl,rfl⟩
    ·cases h
  ·split at h
   ·rename_i sl hp hf;exact afg (bgz hf) (ax0 hF hnd h)
   ·split at h
    ·cases h
    ·exact ax0 hF hnd h
  ·cases h
def au7 (E:Env P) (S:Sys) (N base:Nat) (av:List Nat) (c:Code) (s:AS):Option (Exit × AS):=match c with
  | .skip=>some (.normal,s)
  | .ret=>some (.ret,s)
  | .exit id=>some (.exit id,s)
  | .seq x y=>match S.code N base av x s with
    | some (e, s1)=>match isR e with
      | true=>S.code N base av y s1
      | false=>some (e,s1)
    | none=>none
  | .block id c=>match S.code N base av c s with
    | some (e, s1)=>match e with
      | .exit id'=>match Nat.beq id' id with
        | true=>some (.normal,s1)
        | false=>some (.exit id',s1)
      | e=>some (e,s1)
    | none=>none
  | .cond c x y=>match rdC s c with
    | some (.v (.bool b))=>match b with
      | true=>S.code N base av x s
      | false=>S.code N base av y s
    | _=>none
  | .loop c=>match S.code N base av c s with
    | some (e, s1)=>match isR e with
      | true=>match ddS s1 with
        | ⟨sl,hp⟩=>S.code N base av (.loop c) ⟨sl,hp⟩
      | false=>some (e,s1)
    | none=>none
  | .region id A d=>match a78 A.toList with
    | true=>match bj2 av A.toList s with
      | some s0=>match bn7 E (trF S base) av N A.toList d 20 [] s0 with
        | some s'=>some (.normal,s')
        | none=>none
      | none=>none
    | false=>none
  | _=>none
def bje (st:Nat):List Nat -> AS -> Option AS
  | [],s=>some s
  | k :: ks, s=>match s.blk k with
    | some y=>match bib s 100 st with
      | d=>match s.freshB d with
        | true=>bje st ks (bq1 s k d y)
        | false=>none
    | none=>none
theorem ay7 {st:Nat}:∀ {ks:List Nat} {s s':AS}, bje st ks s = some s' -> Wk s s'
 | [],s,s',h=>by cases h; exact .refl _
 | k :: ks, s, s', h=>by
  unfold bje at h;split at h
  ·rename_i y hy;simp only at h;split at h
   ·rename_i hf; exact (Wk.rekey (s:=s) hy hf).trans (ay7 h)
   ·cases h
  ·cases h
def cnt:Nat -> List Nat -> List Nat
  | _,[]=>[]
  | n,_ :: l=>n :: cnt (n + 1) l
def loc:List Nat -> List Nat
  | []=>[]
  | k :: ks=>match Nat.blt k 1000 with
    | true=>k :: loc ks
    | false=>loc ks
def bi9 (sl:abw):List Nat -> abw
  | []=>[]
  | t :: ts=>match lk sl t with
    | some x=>(t,some x) :: bi9 sl ts
    | none=>bi9 sl ts
theorem axp {sl:abw}:∀ {ts:List Nat} {t:Nat} {x:AV}, lk (bi9 sl ts) t = some x -> lk sl t = some x
 | [],t,x,h=>by cases h
 | t' :: ts, t, x, h=>by
  unfold bi9 at h;split at h
  ·rename_i y hy;rw [aab] at h;split at h
   ·rename_i e; cases h; rw [e]; exact hy
   ·exact axp h
  ·exact axp h
def rsT:List ResultVar -> List Nat
  | []=>[]
  | r :: rs=>(match r with
    | .tmp t=>t
    | .cell t _=>t) :: rsT rs
def bof (P:Program) [Inhabited (Tys P)] (rs:List ResultVar) (Hk:List Nat) (s:AS):Option (AV × Hp):=match ben P s rs with
  | some ys=>some (akt ys,pkH s (a3c s 300 (AV.nms ys ++ Hk) []))
  | none=>none
theorem a9i {rs:List ResultVar} {Hk:List Nat} {s:AS} {r:AV} {H':Hp} (h:bof P rs Hk s = some (r, H')):∃ xs, ResL P s rs xs /\ Fin s (akt xs) r H':=by
 unfold bof at h;split at h
 ·rename_i ys hy;cases h;exact ⟨ys,axe hy,.keep (fun k z hz=>avo hz)⟩
 ·cases h
def bp2 (P:Program) [Inhabited (Tys P)] (av:List Nat) (rs:List ResultVar) (Hk:List Nat) (s:AS):Option (AV × Hp):=match a3c s 300 (AV.nms ((bi9 s.sl (rsT rs)).filterMap (·.2)) ++ Hk) [] with
  | K=>match loc K with
    | []=>bof P rs Hk s
    | k :: ks=>match bje 700 (k :: ks) ⟨bi9 s.sl (rsT rs), pkH s K⟩ with
      | some s2=>match bje (mx 299 av + 1) (cnt 700 (k :: ks)) s2 with
        | some s3=>bof P rs Hk s3
        | none=>none
      | none=>none
theorem bga {av:List Nat} {rs:List ResultVar} {Hk:List Nat} {s:AS} {r:AV} {H':Hp} (h:bp2 P av rs Hk s = some (r, H')):∃ s2, Wk s s2 /\ ∃ xs, ResL P s2 rs xs /\ Fin s2 (akt xs) r H':=by
 unfold bp2 at h;simp only at h;split at h
 ·exact ⟨s,.refl _,a9i h⟩
 ·split at h
  ·rename_i s2 h2;split at h
   ·rename_i s3 h3;exact ⟨s3,((axo (fun t x=>axp) (fun k x=>avo)).trans (ay7 h2)).trans (ay7 h3),a9i h⟩
   ·cases h
  ·cases h
def bbo:Hp -> Bool
  | []=>true
  | (k,_) :: l=>Nat.ble 1000 k && bbo l
theorem a0g:∀ {H:Hp} {k:Nat} {z:Blk}, bbo H = true -> lk H k = some z -> 1000 <= k
 | [],k,z,_,h=>by cases h
 | (k', x) :: l, k, z, h0, h=>by
  simp only [bbo,and_eq_true,Nat.ble_eq] at h0;rw [aab] at h;split at h
  ·rename_i e; rw [e]; exact h0.1
  ·exact a0g h0.2 h
def fnS (E:Env P) (S:Sys) (base:Nat) (av:List Nat) (f:FuncId) (xs:List AV) (H:Hp):Option (AV × Hp):=match E.fe f with
  | some fe=>match Nat.beq fe.f f && bbo H with
    | true=>match a2k 0 xs with
      | some sl=>match S.code fe.fn.ntmps base av fe.c ⟨sl, H⟩ with
        | some (e, s1)=>match a4q e with
          | true=>bp2 P av fe.rs (H.map (·.1)) s1
          | false=>none
        | none=>none
      | none=>none
    | false=>none
  | none=>none
def ev (E:Env P) (n:Nat):Sys:=Nat.rec ⟨fun _ _ _ _ _=>none,fun _ _ _ _ _=>none⟩ (fun _ S=>⟨au7 E S,fnS E S⟩) n
structure SysOk (P:Program) (S:Sys):Prop where
  code:∀ N base av c s e s1,S.code N base av c s = some (e,s1) -> AWP P N c (fun e' s'=>e' = e /\ s' = s1) s
  fn:∀ base av f xs H r H',S.fn base av f xs H = some (r,H') -> Con P f xs H r H'
theorem bjy {P:Program} {S:Sys} (h:SysOk P S) (base:Nat):(trF S base).Ok P:=by
 intro av f xs H r H' h1;unfold trF at h1;simp only at h1;split at h1
 ·rename_i h2; cases h1; exact bq4 (h.fn _ _ _ _ _ _ _ h2)
 ·cases h1
theorem bkr {E:Env P} {S:Sys} (h:SysOk P S) {base:Nat} {av:List Nat} {f:FuncId} {xs:List AV} {H H':Hp} {r:AV} (h1:fnS E S base av f xs H = some (r, H')):Con P f xs H r H':=by
 unfold fnS at h1;split at h1
 ·rename_i fe hfe;split at h1
  ·rename_i hc;simp only [and_eq_true] at hc;have hf:=eq_of_beq_eq_true hc.1;subst hf;split at h1
   ·rename_i sl hsl;cases aoj hsl;split at h1
    ·rename_i e s1 h2;split at h1
     ·rename_i he;refine a5e fe.hf fe.hb fe.hn fe.hrs rfl (fun k z hz=>a0g hc.2 hz) ?_;refine a7g (h.code _ _ _ _ _ _ _ h2) ?_;rintro e' s' ⟨he',hs'⟩;rw [he',hs'];obtain ⟨s2,hw,hx⟩:=bga h1;refine ⟨s2,hw,?_⟩;cases e <;> first | exact hx | exact (nomatch he)
     ·cases h1
    ·cases h1
   ·cases h1
  ·cases h1
 ·cases h1
theorem bc3 (E:Env P):∀ n m, m <= n -> SysOk P (ev E m)
 | 0, m, hm=>by
  have:m = 0:=by omega
  subst this;exact { code:=(fun _ _ _ _ _ _ _ h=>by cases h),fn:=(fun _ _ _ _ _ _ _ h=>by cases h) }
 | n + 1, m, hm=>by
  by_cases hmn:m <= n
  ·exact bc3 E n m hmn
  ·have : m = n + 1 := by omega
   subst this;have ih:=bc3 E n n (le_refl _);refine ⟨?_,fun base av f xs H r H' h=>bkr ih h⟩;intro N base av c s e s1 h
   change au7 E (ev E n) N base av c s = some (e,s1) at h
   cases c with
   | skip=>cases h; exact a0a ⟨rfl,rfl⟩
   | ret=>cases h; exact a4k ⟨rfl,rfl⟩
   | exit id=>cases h; exact a10 ⟨rfl,rfl⟩
   | seq x y =>
    simp only [au7] at h;split at h
    ·rename_i e1 s2 h1;refine a88 fun K hK=>ac1 (ih.code _ _ _ _ _ _ _ h1) ?_
     rintro e' s' ⟨he,hs⟩;rw [he,hs];split at h
     ·rename_i hr;cases e1 <;> first | exact hK _ (ih.code _ _ _ _ _ _ _ h) | exact (nomatch hr)
     ·rename_i hr;obtain ⟨rfl,rfl⟩:=Prod.mk.inj (Option.some.inj h);cases e1 <;> first | exact ⟨rfl,rfl⟩ | exact (nomatch hr)
    ·cases h
   | block id c =>
    simp only [au7] at h;split at h
    ·rename_i e1 s2 h1;refine avy (ac1 (ih.code _ _ _ _ _ _ _ h1) ?_);rintro e' s' ⟨he,hs⟩;rw [he,hs];split at h
     ·rename_i id';show match Nat.beq id' id with | true=>_ | false=>_
      split at h
      ·rename_i hb;obtain ⟨rfl,rfl⟩:=Prod.mk.inj (Option.some.inj h);simp only []; exact ⟨trivial,trivial⟩
      ·rename_i hb;obtain ⟨rfl,rfl⟩:=Prod.mk.inj (Option.some.inj h);simp only []; exact ⟨trivial,trivial⟩
     ·rename_i hne;obtain ⟨rfl,rfl⟩:=Prod.mk.inj (Option.some.inj h);cases e1 <;> first | exact ⟨rfl,rfl⟩ | exact absurd rfl (hne _)
    ·cases h
   | cond c x y =>
    simp only [au7] at h;split at h
    ·rename_i b hb;split at h
     ·exact auf (abh hb) (fun _=>ih.code _ _ _ _ _ _ _ h) (fun e=>by cases e)
     ·exact auf (abh hb) (fun e=>by cases e) (fun _=>ih.code _ _ _ _ _ _ _ h)
    ·cases h
   | loop c =>
    refine ah4 (fun m s=>m <= n + 1 /\ (ev E m).code N base av (.loop c) s = some (e,s1)) (n:=n + 1) (.refl _) ⟨le_refl _,h⟩ ?_;rintro m s ⟨hm,hI⟩ K hK;cases m with
    | zero=>cases hI
    | succ m =>
     change au7 E (ev E m) N base av (.loop c) s = some (e,s1) at hI
     have ihm:=bc3 E n m (by omega);simp only [au7] at hI;split at hI
     ·rename_i e1 s2 h1;refine ac1 (ihm.code _ _ _ _ _ _ _ h1) ?_;rintro e' s' ⟨he,hs⟩;rw [he,hs];split at hI
      ·rename_i hr;cases e1 <;> first | exact hK _ _ m (bqs s2) ⟨by omega,hI⟩ (by omega) | exact (nomatch hr)
      ·rename_i hr;obtain ⟨rfl,rfl⟩:=Prod.mk.inj (Option.some.inj hI);cases e1 <;> first | exact ⟨rfl,rfl⟩ | exact (nomatch hr)
     ·cases hI
   | region id A d =>
    simp only [au7] at h;split at h
    ·rename_i hnd;split at h
     ·rename_i s0 h0;refine afg (azf h0) ?_;split at h
      ·rename_i s' h1;obtain ⟨rfl,rfl⟩:=Prod.mk.inj (Option.some.inj h);exact ax0 (bjy ih base) (asd hnd) h1
      ·cases h
     ·cases h
    ·cases h
   | _=>cases h
theorem axz (E:Env P) (n:Nat) {base:Nat} {av:List Nat} {f:FuncId} {xs:List AV} {H H':Hp} {r:AV} (h:(ev E n).fn base av f xs H = some (r, H')):Con P f xs H r H' :=
 (bc3 E n n (le_refl _)).fn _ _ _ _ _ _ _ h
end Go.Lw
namespace Go.Lw
def bd3 (s:ByteArray) (n:Int):Bd:=⟨s,[⟨⟨#[97]⟩,rt ((0:Int):Rat),rt ((0:Int):Rat)⟩,⟨⟨#[98]⟩,rt (n:Rat),rt ((0:Int):Rat)⟩]⟩
def fb:Li:=⟨⟨#[102, 111, 117, 114, 98, 97, 114]⟩, [bd3 ⟨#[102, 114, 97, 109, 101]⟩ 4, bd3 ⟨#[99, 114, 97, 110, 107]⟩ 3, bd3 ⟨#[99, 111, 117, 112, 108, 101, 114]⟩ 5, bd3 ⟨#[114, 111, 99, 107, 101, 114]⟩ 6],
  [⟨⟨#[111]⟩,0,1,0,0,0,0⟩,⟨⟨#[112]⟩,0,2,0,1,1,0⟩,⟨⟨#[113]⟩,0,3,0,0,1,0⟩,⟨⟨#[114]⟩,0,2,1,3,1,0⟩],[⟨⟨#[100]⟩,1⟩]⟩
def t0:Tn:=⟨⟨false,[],[]⟩,false⟩
theorem as9 (a b:ByteArray):eqS a b = (a.data.toList == b.data.toList):=by
 unfold eqS; rw [Go.ByteArray.toList_eq,Go.ByteArray.toList_eq]
theorem axx:liE fb = 0:=by
 have h1:bbr fb = 0:=by
  unfold bbr aga bdE a3g mkE;simp only [as9];decide +kernel
 have h2:axa fb = 0:=by
  unfold axa aga jtE a3g;simp only [as9];decide +kernel
 have h3:a90 fb = 0:=by
  unfold a90 aga drE a3g;simp only [as9];decide +kernel
 unfold liE;rw [h1,h2,h3];decide +kernel
theorem bfa {s:ByteArray} (hs:s.size <= 281474976710656) {n:Int} (hn:-9223372036854775808 <= n /\ n <= 9223372036854775807) :
  (bd3 s n).name.size <= 281474976710656 /\ (bd3 s n).pts.length <= 281474976710656 /\ ∀ m ∈ (bd3 s n).pts,m.name.size <= 281474976710656 /\ m.x.wok /\ m.y.wok:=by
 have h0:(rt ((0:Int):Rat)).ok:=(a1j (by omega)).ok;have h1:(rt (n:Rat)).ok:=(a1j hn).ok;refine ⟨hs,by show 2 <= _; omega,fun m hm=>?_⟩;simp only [bd3,mem_cons,not_mem_nil,or_false] at hm;rcases hm with rfl | rfl
 ·exact ⟨by show 1 <= _; omega,h0.wok,h0.wok⟩
 ·exact ⟨by show 1 <= _; omega,h1.wok,h0.wok⟩
theorem bjq:fb.okw:=by
 refine ⟨by decide,fun b hb=>?_,fun j hj=>?_,fun d hd=>?_,by decide,by decide,by decide⟩
 ·simp only [fb, mem_cons, not_mem_nil, or_false] at hb;rcases hb with rfl | rfl | rfl | rfl <;> exact bfa (by decide) (by omega)
 ·simp only [fb, mem_cons, not_mem_nil, or_false] at hj;rcases hj with rfl | rfl | rfl | rfl <;> decide
 ·simp only [fb, mem_cons, not_mem_nil, or_false] at hd;rcases hd with rfl; decide
theorem ayx:fb.ok:=bk8 (by decide +kernel) bjq
end Go.Lw
namespace Go.Lw
open Go.Proofs
def feG (P:Program) (n:Nat):Option (FE P):=match h:P.funcs[n]? with
  | none=>none
  | some fn=>match hb:fn.body with
    | none=>none
    | some c => match hn : (fn.name == "runtime.NumGoroutine") with
      | true=>none
      | false=>some ⟨n,fn,c,fn.results.toList,h,hb,hn,by simp⟩
def smQ (q:Rat):Bool:=Nat.blt q.num.natAbs 18446744073709551616 && Nat.blt q.den 18446744073709551616
theorem bd5 {q:Rat} (h:smQ q = true):Qb 64 q:=by
 simp only [smQ,and_eq_true,Nat.blt_eq] at h;exact ⟨h.1,h.2⟩
theorem ag9 {q:Rat} (h:smQ q = true):Qs q:=(bd5 h).qs (by omega)
def n0 (q:Rat):AV:=nA (sh 0 (q:Rat))
def z0:AV:=acm []
theorem aj9 {q:Rat} (h:smQ q = true):Nm ([]:List (List Rat)).length 64 (sh 0 (q:Rat)):=Nm.ofQ (by decide) (Cb.one (bd5 h))
theorem a9y (q:Rat):dec ([]:List (List Rat)).length (sh 0 (q:Rat)) = q:=aib 0 q
theorem bhf:Tw [] 1 where
 three:=by decide
 len:=fun j hj=>absurd hj (Nat.not_lt_zero j)
 pos:=fun j hj=>absurd hj (Nat.not_lt_zero j)
 rb:=⟨1,1,by omega,fun d hd=>absurd hd not_mem_nil,by decide,by decide⟩
 le:=by decide
theorem lm0:lm ([]:List (List Rat)).length = 200000000000:=rfl
def dW:List AV -> Nat
  | []=>0
  | x :: l=>match x with
    | .v (.int _ (.ofNat n))=>n + 4294967296 * dW l
    | _=>0
def dWs:AV -> Nat
  | .lst _ l=>dW l
  | _=>0
def dQ (x:AV):Rat:=match x with
  | .agg (.v (.bool s) :: n :: d :: _)=>match s with
    | true=>mkRat (-(dWs n:Int)) (dWs d)
    | false=>mkRat (dWs n:Int) (dWs d)
  | _=>0
def dN (x:AV):Rat:=match x with
  | .lst _ (x :: _)=>dQ x
  | _=>0
abbrev En:=Option (Ent prog)
def w2 (f:FuncId) (g:Rat -> Rat -> AV) (h:∀ p q, smQ p = true -> smQ q = true -> FnC prog f [qA p, qA q] (g p q)) (p q:Rat):En:=match hh:smQ p && smQ q with
  | true=>some ⟨f,[qA p,qA q],g p q,[],h p q (by rw [and_eq_true] at hh; exact hh.1) (by rw [and_eq_true] at hh; exact hh.2)⟩
  | false=>none
def oQ2 (f:FuncId) (g:Rat -> Rat -> AV) (h:∀ p q, smQ p = true -> smQ q = true -> FnC prog f [qA p, qA q] (g p q)) (xs:List AV):En:=match xs with
  | [a,b]=>w2 f g h (dQ a) (dQ b)
  | _=>none
def w1 (f:FuncId) (a:Rat -> AV) (g:Rat -> AV) (h:∀ p, smQ p = true -> FnC prog f [a p] (g p)) (p:Rat):En:=match hh:smQ p with
  | true=>some ⟨f,[a p],g p,[],h p hh⟩
  | false=>none
def oQ1 (f:FuncId) (g:Rat -> AV) (h:∀ p, smQ p = true -> FnC prog f [qA p] (g p)) (xs:List AV):En:=match xs with
  | [a]=>w1 f qA g h (dQ a)
  | _=>none
def w3 (f:FuncId) (g:Rat -> Rat -> AV) (h:∀ p q, smQ p = true -> smQ q = true -> FnC prog f [z0, n0 p, n0 q] (g p q)) (p q:Rat):En:=match hh:smQ p && smQ q with
  | true=>some ⟨f,[z0,n0 p,n0 q],g p q,[],h p q (by rw [and_eq_true] at hh; exact hh.1) (by rw [and_eq_true] at hh; exact hh.2)⟩
  | false=>none
def oT2 (f:FuncId) (g:Rat -> Rat -> AV) (h:∀ p q, smQ p = true -> smQ q = true -> FnC prog f [z0, n0 p, n0 q] (g p q)) (xs:List AV):En:=match xs with
  | [_,a,b]=>w3 f g h (dN a) (dN b)
  | _=>none
def w4 (f:FuncId) (g:Rat -> AV) (h:∀ p, smQ p = true -> FnC prog f [z0, n0 p] (g p)) (p:Rat):En:=match hh:smQ p with
  | true=>some ⟨f,[z0,n0 p],g p,[],h p hh⟩
  | false=>none
def oT1 (f:FuncId) (g:Rat -> AV) (h:∀ p, smQ p = true -> FnC prog f [z0, n0 p] (g p)) (xs:List AV):En:=match xs with
  | [_,a]=>w4 f g h (dN a)
  | _=>none
def oC (f:FuncId) (ys:List AV) (r:AV) (h:FnC prog f ys r) (xs:List AV):En:=some ⟨f,ys,r,[],h⟩
def dI (x:AV):Int:=match x with
  | .v (.int _ z)=>z
  | _=>0
def oI (f:FuncId) (g:Int -> AV) (h:∀ z, (-9223372036854775808 <= z /\ z <= 9223372036854775807) -> FnC prog f [i64 z] (g z)) (xs:List AV):En:=match xs with
  | [a]=>match (inferInstance:Decidable (-9223372036854775808 <= dI a /\ dI a <= 9223372036854775807)) with
    | .isTrue hh=>some ⟨f,[i64 (dI a)],g (dI a),[],h (dI a) hh⟩
    | .isFalse _=>none
  | _=>none
theorem bov (p q:Rat) (hp:smQ p = true) (hq:smQ q = true):FnC prog 274 [z0, n0 p, n0 q] (.tup [n0 (p + q), .v .nilIface]):=by
 have h:=a1x bhf (aj9 hp) (aj9 hq) (by rw [lm0]; omega);rw [a9y,a9y] at h; exact h
theorem bpr (p q:Rat) (hp:smQ p = true) (hq:smQ q = true):FnC prog 147 [z0, n0 p, n0 q] (.tup [n0 (p + -q), .v .nilIface]):=by
 have h:=ani bhf (aj9 hp) (aj9 hq) (by rw [lm0]; omega);rw [a9y,a9y] at h; exact h
theorem bo8 (p q:Rat) (hp:smQ p = true) (hq:smQ q = true):FnC prog 148 [z0, n0 p, n0 q] (.tup [n0 (p * q), .v .nilIface]):=by
 have h:=a0m bhf (aj9 hp) (aj9 hq) (by rw [lm0]; omega);rw [a9y,a9y] at h; exact h
theorem bk7 (p:Rat) (hp:smQ p = true):FnC prog 192 [z0, n0 p] (.tup [i64 (af6 p), .v .nilIface]):=by
 have h:=ayn bhf (aj9 hp) (by rw [lm0]; omega);rw [a9y] at h; exact h
theorem bow (p:Rat) (hp:smQ p = true):FnC prog 73 [z0, n0 p] (.tup [n0 (-p), .v .nilIface]):=by
 have h:=a15 bhf (aj9 hp) (by rw [lm0]; omega);rw [a9y] at h; exact h
theorem bht (p q:Rat) (hp:smQ p = true) (hq:smQ q = true):FnC prog 20 [z0, n0 p, n0 q] (bl (decide (af6 (p + -q) = 0))):=by
 have h:=ae4 bhf (aj9 hp) (aj9 hq) (by rw [lm0]; omega);rw [a9y,a9y] at h; exact h
def bri:FuncId -> Option (List AV -> En)
  | 274=>some (oT2 274 _ bov)
  | 147=>some (oT2 147 _ bpr)
  | 148=>some (oT2 148 _ bo8)
  | 192=>some (oT1 192 _ bk7)
  | 73=>some (oT1 73 _ bow)
  | 70=>some (oC 70 [z0] (.v .nilIface) (az9 bhf))
  | 134=>some (oQ1 134 n0 fun _ h=>axv (ag9 h))
  | 20=>some (oT2 20 _ bht)
  | 77=>some (oI 77 (fun z=>qA z) act)
  | 15=>some (oI 15 (fun z=>qA z) a1n)
  | 35=>some (oQ1 35 n0 fun _ h=>bpi (ag9 h))
  | 172=>some (oQ2 172 (fun p q=>qA (p + q)) fun _ _ h h'=>ba3 (ag9 h) (ag9 h'))
  | 177=>some (oQ2 177 (fun p q=>qA (p - q)) fun _ _ h h'=>a7f (ag9 h) (ag9 h'))
  | 236=>some (oQ2 236 (fun p q=>qA (p * q)) fun _ _ h h'=>a34 (ag9 h) (ag9 h'))
  | 309=>some (oQ2 309 (fun p q=>.tup [qA (p / q),aik (if q = 0 then 8 else 0)]) fun _ _ h h'=>bn3 (ag9 h) (ag9 h'))
  | 262=>some (oQ1 262 (fun p=>qA (-p)) fun _ h=>bqd (ag9 h))
  | 175=>some (oQ1 175 (fun p=>i64 (af6 p)) fun _ h=>bet (ag9 h))
  | _=>none
def dIs (x:AV):List Int:=match x with
  | .lst _ es=>es.map dI
  | _=>[]
def dG (x:AV):Gr:=match x with
  | .agg [k,b,j,d]=>⟨dI k,dIs b,dIs j,dI d⟩
  | _=>default
def bpt (n:Nat) (l:List Int):Bool:=l.all fun z=>aaa .leq 0 z && aaa .lss z n
theorem a8b {n:Nat} {l:List Int} (h:bpt n l = true):∀ x ∈ l, 0 <= x /\ x < n:=by
 intro x hx;have:=List.all_eq_true.1 h x hx;simp only [and_eq_true,aaa,decide_eq_true_eq] at this;exact this
def grB (l:Li) (g:Gr):Bool:=bpt l.bodies.length g.bodies && bpt l.joints.length g.joints && Nat.ble g.bodies.length 2 && Nat.ble g.joints.length 3
theorem bng {l:Li} {g:Gr} (h:grB l g = true):GrOk l g:=by
 simp only [grB,and_eq_true,Nat.ble_eq] at h;exact ⟨a8b h.1.1.1,a8b h.1.1.2,h.1.2,h.2⟩
def bru (l:Li) (hl:l.ok) (hli:liE l = 0) (g:Gr):En:=match hh:grB l g with
  | true=>some ⟨71,[l.av,g.av],_,_,apu l hl hli g (bng hh)⟩
  | false=>none
def bq8 (l:Li) (hl:l.ok) (hli:liE l = 0) (xs:List AV):En:=match xs with
  | [_,g]=>bru l hl hli (dG g)
  | _=>none
theorem bgc (l:Li) (hl:l.ok) (hli:liE l = 0):FnC prog 69 [l.av] (.tup [.lst 4 ((adl l).map Gr.av), aik (adn l)]):=by
 have h:=avd l hl;rw [if_pos hli,if_pos hli] at h; exact h
def bic (l:Li) (hl:l.ok) (hli:liE l = 0):FuncId -> Option (List AV -> En)
  | 69=>some (oC 69 [l.av] _ (bgc l hl hli))
  | 71=>some (bq8 l hl hli)
  | 243=>some (oQ1 243 (fun p=>bl (rt p).valid) fun _ h=>aco _ (ag9 h).ok)
  | f=>bri f
def orP:List (Ent prog) -> FuncId -> Bool
  | [],_=>false
  | e :: l, f=>match Nat.beq e.f f with
    | true=>true
    | false=>orP l f
def orS (xs:List AV) (f:FuncId):List (Ent prog) -> En
  | []=>none
  | e :: l=>match Nat.beq e.f f && axm xs e.xs with
    | true=>some e
    | false=>orS xs f l
def orF (L:List (Ent prog)) (o:FuncId -> Option (List AV -> En)) (f:FuncId):Option (List AV -> En):=match orP L f with
  | true=>some fun xs=>match orS xs f L with
    | some e=>some e
    | none=>match o f with
      | some g=>g xs
      | none=>none
  | false=>o f
def bhj (n:FuncId):Bool:=Nat.beq n 72 || (Nat.beq n 161 || Nat.beq n 250)
end Go.Lw
namespace Go.Lw
open Go.Proofs
set_option maxRecDepth 20000
def bp3:AV:=.agg [.v (.string ⟨⟨[111]⟩⟩),.v (.int .i64 0),.v (.int .i64 1),.v (.int .i64 0),.v (.int .i64 0),.v (.int .i64 0),.v (.int .i64 0)]
def bqc:AV:=.agg [.v (.string ⟨⟨[112]⟩⟩),.v (.int .i64 0),.v (.int .i64 2),.v (.int .i64 0),.v (.int .i64 1),.v (.int .i64 1),.v (.int .i64 0)]
def bpq:AV:=.agg [.v (.string ⟨⟨[113]⟩⟩),.v (.int .i64 0),.v (.int .i64 3),.v (.int .i64 0),.v (.int .i64 0),.v (.int .i64 1),.v (.int .i64 0)]
def bqh:AV:=.agg [.v (.string ⟨⟨[114]⟩⟩),.v (.int .i64 0),.v (.int .i64 2),.v (.int .i64 1),.v (.int .i64 3),.v (.int .i64 1),.v (.int .i64 0)]
def bpu:AV:=.agg [.v (.string ⟨⟨[98]⟩⟩),.v (.bool false),.lst 1 [.v (.int .u32 4)],.lst 1 [.v (.int .u32 1)],.v (.bool false),.lst 1 [],.lst 1 []]
def bp9:AV:=.agg [.v (.string ⟨⟨[98]⟩⟩),.v (.bool false),.lst 1 [.v (.int .u32 3)],.lst 1 [.v (.int .u32 1)],.v (.bool false),.lst 1 [],.lst 1 []]
def bqb:AV:=.agg [.v (.string ⟨⟨[98]⟩⟩),.v (.bool false),.lst 1 [.v (.int .u32 5)],.lst 1 [.v (.int .u32 1)],.v (.bool false),.lst 1 [],.lst 1 []]
def bqq:AV:=.agg [.v (.string ⟨⟨[98]⟩⟩),.v (.bool false),.lst 1 [.v (.int .u32 6)],.lst 1 [.v (.int .u32 1)],.v (.bool false),.lst 1 [],.lst 1 []]
def bmo:AV:=.agg [.v (.slice none 0 0),.lst 2 [.agg [.lst 3 [.agg [.v (.bool true),.lst 1 [.v (.int .u32 2)],.lst 1 [.v (.int .u32 1)]]],.lst 3 []]]]
def bmj:AV:=.agg [.lst 3 [.agg [.v (.bool false),.lst 1 [.v (.int .u32 1)],.lst 1 [.v (.int .u32 1)]]],.v (.slice none 0 0),.v (.slice none 0 0),.v (.slice none 0 0)]
def beo:AV:=.agg [.lst 3 [.agg [.v (.bool false),.lst 1 [.v (.int .u32 3)],.lst 1 [.v (.int .u32 1)]]],.lst 3 [],.lst 3 [.agg [.v (.bool false),.lst 1 [.v (.int .u32 25)],.lst 1 [.v (.int .u32 1)]]]]
def bdw:AV:=.agg [.lst 3 [.agg [.v (.bool false),.lst 1 [.v (.int .u32 4)],.lst 1 [.v (.int .u32 1)]]],.lst 3 [],.lst 3 [.agg [.v (.bool false),.lst 1 [.v (.int .u32 36)],.lst 1 [.v (.int .u32 1)]]]]
def bmu:AV:=.agg [.lst 3 [.agg [.v (.bool true),.lst 1 [.v (.int .u32 1)],.lst 1 [.v (.int .u32 1)]]],.v (.slice none 0 0),.lst 3 [.agg [.v (.bool false),.lst 1 [.v (.int .u32 3)],.lst 1 [.v (.int .u32 1)]]],.lst 3 []]
def bnd:AV:=.agg [.lst 3 [.agg [.v (.bool true),.lst 1 [.v (.int .u32 1)],.lst 1 [.v (.int .u32 1)]]],.v (.slice none 0 0),.lst 3 [.agg [.v (.bool false),.lst 1 [.v (.int .u32 4)],.lst 1 [.v (.int .u32 1)]]],.lst 3 []]
def bny:AV:=.lst 7 [.agg [.v (.string ⟨⟨[97]⟩⟩),.v (.bool false),.lst 1 [],.lst 1 [],.v (.bool false),.lst 1 [],.lst 1 []],bpu]
def bmn:AV:=.lst 7 [.agg [.v (.string ⟨⟨[97]⟩⟩),.v (.bool false),.lst 1 [],.lst 1 [],.v (.bool false),.lst 1 [],.lst 1 []],bp9]
def bjg:AV:=.lst 7 [.agg [.v (.string ⟨⟨[97]⟩⟩),.v (.bool false),.lst 1 [],.lst 1 [],.v (.bool false),.lst 1 [],.lst 1 []],bqb]
def blp:AV:=.lst 7 [.agg [.v (.string ⟨⟨[97]⟩⟩),.v (.bool false),.lst 1 [],.lst 1 [],.v (.bool false),.lst 1 [],.lst 1 []],bqq]
def bjs:AV:=.agg [.v (.string ⟨⟨[99,114,97,110,107]⟩⟩),bmn]
def bln:AV:=.agg [.v (.string ⟨⟨[102,114,97,109,101]⟩⟩),bny]
def bjx:AV:=.agg [.v (.string ⟨⟨[114,111,99,107,101,114]⟩⟩),blp]
def bkt:AV:=.agg [.v (.string ⟨⟨[99,111,117,112,108,101,114]⟩⟩),bjg]
def bnc:AV:=.lst 4 [bmu,bnd]
def bd2:AV:=.agg [.v (.slice none 0 0),bnc,.v (.int .i64 0)]
def bkw:AV:=.lst 4 [bmj,bmj,.agg [.v (.slice none 0 0),.v (.slice none 0 0),.v (.slice none 0 0),.v (.slice none 0 0)],.agg [.v (.slice none 0 0),.v (.slice none 0 0),.v (.slice none 0 0),.v (.slice none 0 0)]]
def blr:AV:=.lst 7 [bp3,bqc,bpq,bqh]
def beb:AV:=.agg [.v (.slice none 0 0),bkw,.v (.slice none 0 0)]
def bmr:AV:=.lst 2 [bln,bjs,bkt,bjx]
def a6p:AV:=.agg [.v (.string ⟨⟨[102,111,117,114,98,97,114]⟩⟩),bmr,blr,.lst 2 [.agg [.v (.string ⟨⟨[100]⟩⟩),.v (.int .i64 1)]]]
theorem bra:Con prog 16 [] [] (a6p) []:=axz ⟨orF [] ((bic fb ayx axx)),feG prog,bhj⟩ 6000 (base:=2000) (av:=[]) (by kernel_rfl)
def bkh:List (Ent prog):=⟨_,_,_,_,bra⟩ :: []
theorem brs:Con prog 83 [.agg [.v (.slice none 0 0)],beo,bdw] [] (.tup [bmo,.v .nilIface]) []:=axz ⟨orF bkh ((bic fb ayx axx)),feG prog,bhj⟩ 6000 (base:=2000) (av:=[]) (by kernel_rfl)
def bkn:List (Ent prog):=⟨_,_,_,_,brs⟩ :: bkh
theorem brv:Con prog 84 [bmo,.lst 14 [.agg [.v (.bool false),.lst 1 [],.lst 1 [],.v (.bool false),.lst 1 [],.lst 1 [],.lst 3 [.agg [.v (.bool false),.lst 1 [.v (.int .u32 3)],.lst 1 [.v (.int .u32 1)]]],.lst 3 [],.v (.bool false),.lst 1 [.v (.int .u32 5)],.lst 1 [.v (.int .u32 1)],.v (.bool false),.lst 1 [],.lst 1 []],.agg [.v (.bool false),.lst 1 [],.lst 1 [],.v (.bool false),.lst 1 [],.lst 1 [],.lst 3 [.agg [.v (.bool false),.lst 1 [.v (.int .u32 4)],.lst 1 [.v (.int .u32 1)]]],.lst 3 [],.v (.bool false),.lst 1 [.v (.int .u32 6)],.lst 1 [.v (.int .u32 1)],.v (.bool false),.lst 1 [],.lst 1 []]]] [] (.tup [.ms 300 3 0 1,.v .nilIface]) [(300,some (.row 3 [bd2]))]:=axz ⟨orF bkn ((bic fb ayx axx)),feG prog,bhj⟩ 6000 (base:=2000) (av:=[]) (by kernel_rfl)
def bl1:List (Ent prog):=⟨_,_,_,_,brv⟩ :: bkn
theorem bro:Con prog 9 [a6p,.v (.int .i64 1),.agg [.v (.bool false),.v (.slice none 0 0),.v (.slice none 0 0),.v (.bool false)],beb] [] (.tup [.ms 300 3 0 1,.v .nilIface]) [(300,some (.row 3 [bd2]))]:=axz ⟨orF bl1 ((bic fb ayx axx)),feG prog,bhj⟩ 6000 (base:=2000) (av:=[]) (by kernel_rfl)
def bj8:List (Ent prog):=⟨_,_,_,_,bro⟩ :: bl1
theorem brh:Con prog 56 [.agg [.v (.slice none 0 0)],beo,bdw] [] (.tup [.lst 3 [],.v .nilIface]) []:=axz ⟨orF bj8 ((bic fb ayx axx)),feG prog,bhj⟩ 6000 (base:=2000) (av:=[]) (by kernel_rfl)
def bj0:List (Ent prog):=⟨_,_,_,_,brh⟩ :: bj8
theorem brm:Con prog 18 [a6p,.v (.int .i64 1),beb] [] (.tup [.lst 3 [],.v .nilIface]) []:=axz ⟨orF bj0 ((bic fb ayx axx)),feG prog,bhj⟩ 6000 (base:=2000) (av:=[]) (by kernel_rfl)
def bot:List (Ent prog):=⟨_,_,_,_,brm⟩ :: bj0
theorem ap5:FnC prog 5 [] (bl true):=axz ⟨orF bot ((bic fb ayx axx)),feG prog,bhj⟩ 6000 (base:=2000) (av:=[]) (by kernel_rfl)
end Go.Lw
namespace Go.Lw
open Go.Proofs
theorem bpk {d f g:Bool} (h:cond (cond (cond (!true) true (!d)) true (!f)) true (!g) = false):d = true /\ f = true /\ g = true:=by cases d <;> cases f <;> cases g <;> simp_all
theorem bqf {r:Rt} (h:af8 [] [[r]] = true) (hw:r.wok):r.ok /\ Qb 1000 r.q:=by
 unfold af8 at h;rw [if_pos (.inl (zero_le _))] at h;unfold akf at h;rw [nil_append,all_eq_true] at h;obtain ⟨_,h1,o1⟩:=aom (h _ (mem_cons_self ..)) (by omega) (by omega) (fun x hx=>by rw [List.mem_singleton.1 hx]; exact hw);exact ⟨o1 _ (by simp),(h1 _ (by simp [lq])).mono (by omega)⟩
theorem bg4 {a:As} (h:bec a = true) (h5:ae1 a.rs = 0):(llq a.rs).length <= 1:=by
 unfold bec at h;simp only [and_eq_true,decide_eq_true_eq] at h;rcases h.2.2 with h9 | h9
 ·rw [aue]; exact h9
 ·exfalso;unfold ae1 at h5;rw [if_pos (by omega)] at h5;cases h5
theorem bbd {l:Li} {k:Int} {x:Tn} {a:As} (h:(a38 l k x a).2 ≠ 0):(a38 l k x a).1 = []:=by
 unfold a38 at h ⊢;split
 ·rename_i h0;rw [if_pos h0] at h;unfold avq a2t a4a prR rpR at h ⊢
  repeat' split
  all_goals first | rfl | simp_all
 ·rfl
theorem bkk {l:Li} {k:Int} {x:Tn} {a:As} (h:(a38 l k x a).2 = 0):dyE l k a false = 0:=by
 unfold a38 at h;split at h
 ·assumption
 ·rename_i h0; exact absurd h h0
theorem bno:NR [] 4000:=⟨by simp,by simp,Cb.nil.mono (by omega)⟩
theorem brp:NR [rt ((7:Int):Rat)] 4000:=by
 have h7:Qb 3 ((7:Int):Rat):=⟨by decide,by decide⟩
 have h:=(bq7 (n:=0) (by omega) h7).cb;refine ⟨fun y hy=>by rw [List.mem_singleton.1 hy]; exact (h7.qs (by omega)).ok,by show 1 <= _; omega,?_⟩
 have e:lq [rt ((7:Int):Rat)] = sh 0 (((7:Int):Rat)):=by
  show [(rt ((7:Int):Rat)).q] = _;rw [ahn]; rfl
 rw [e];exact h.mono (by omega)
theorem bm4:NR [⟨false, [], []⟩, ⟨false, [], []⟩, ⟨false, [], []⟩] 4000:=by
 refine ⟨fun y hy=>?_,by show 3 <= _; omega,?_⟩
 ·rcases (by simpa using hy : y = ⟨false, [], []⟩) with rfl;exact ⟨apm,apm,by show 0 <= _; omega,by show 0 <= _; omega⟩
 ·have h:Cb 0 (aaw [] 3):=Cb.nil.wide;exact (show Cb 0 [0,0,0] from h).mono (by omega)
theorem bj4 {a:As} (al:AL a) (ids:List Int):AL ⟨a.rs, ay4 a.bs ids, []⟩:=by
 refine ⟨al.tr,fun b hb=>?_,al.ll,by show (ay4 a.bs ids).length <= 20; rw [alk]; exact al.bl⟩;rcases a1k ids a.bs b hb with h | rfl
 ·exact al.nr b h
 ·intro x hx;rcases (by simpa [Pl.l,zP] using hx:x = [rt ((7:Int):Rat)] \/ x = [] \/ x = [⟨false,[],[]⟩,⟨false,[],[]⟩,⟨false,[],[]⟩] \/ x = []) with rfl | rfl | rfl | rfl
  ·exact brp
  ·exact bno
  ·exact bm4
  ·exact bno
def zV:AV:=.agg [.v (.bool false),.v (.slice none 0 0),.v (.slice none 0 0)]
def zLA:AV:=.agg [.lst 3 [qA ((7:Int):Rat)],.v (.slice none 0 0),.lst 3 (List.replicate 3 zV),.v (.slice none 0 0)]
theorem bh9:adb zLA zP.av:=by
 have h0:adb zV (Rt.av ⟨false, [], []⟩):=by
  refine ⟨rfl,fun j x y hx hy=>?_⟩
  match j,hx,hy with
  | 0,hx,hy=>cases hx; cases hy; exact ⟨rfl,.refl _⟩
  | 1,hx,hy=>cases hx; cases hy; exact ⟨rfl,.nil _ _ _⟩
  | 2,hx,hy=>cases hx; cases hy; exact ⟨rfl,.nil _ _ _⟩
 have h3:Sub (.lst 3 (List.replicate 3 zV)) (nR [⟨false, [], []⟩, ⟨false, [], []⟩, ⟨false, [], []⟩]):=by
  refine Sub.lst rfl (fun i x y hx hy=>?_)
  match i,hx,hy with
  | 0,hx,hy=>cases hx; cases hy; exact h0
  | 1,hx,hy=>cases hx; cases hy; exact h0
  | 2,hx,hy=>cases hx; cases hy; exact h0
 refine ⟨rfl,fun j x y hx hy=>?_⟩
 match j,hx,hy with
 | 0,hx,hy=>cases hx; cases hy; exact ⟨rfl,.refl _⟩
 | 1,hx,hy=>cases hx; cases hy; exact ⟨rfl,.nil _ _ _⟩
 | 2,hx,hy=>cases hx; cases hy; exact ⟨rfl,h3⟩
 | 3,hx,hy=>cases hx; cases hy; exact ⟨rfl,.nil _ _ _⟩
theorem bgj {bs:List Pl} {m:Nat}:BlkSub (.row 4 ((bs.map Pl.av).set m zLA)) (.row 4 ((bs.set m zP).map Pl.av)):=by
 refine .row (by simp) (fun i e e' he he'=>?_);rw [map_set] at he';rw [List.getElem?_set] at he he';split at he
 ·rename_i h1;rw [if_pos h1] at he';split at he
  ·rename_i h2;rw [if_pos h2] at he';cases he; cases he'
   exact bh9
  ·cases he
 ·rename_i h1;rw [if_neg h1] at he';rw [he] at he'; cases he'
  rw [getElem?_map] at he;obtain ⟨p,_,rfl⟩:=Option.map_eq_some_iff.1 he;refine adb.refl (fun c hc=>?_);rcases (by simpa [Pl.av,AV.cells] using hc:c = nR p.c \/ c = nR p.s \/ c = nR p.x \/ c = nR p.y) with rfl | rfl | rfl | rfl <;> rfl
theorem bg3 {k:Int} {m n:Nat} (h:cond (cond (cond (aaa .neq ((0:Nat):Int) 0) true (aaa .lss k 0)) true (aaa .geq k (m:Int))) true (aaa .gtr (n:Int) 2) = true) (h0:0 <= k) (h1:k < m) (h2:n <= 2):False:=by
 rw [show aaa .lss k 0 = false from decide_eq_false (by omega),show aaa .geq k (m:Int) = false from decide_eq_false (by omega),show aaa .gtr (n:Int) 2 = false from decide_eq_false (by omega)] at h;cases h
theorem at0 (l:Li) (hw:l.okw) (k:Int) (x:Tn) (hxw:x.t.wok) (a:As) (ha:a.ok):FnC prog 4 [l.av, .agg [i64 k, bl x.t.neg, ws x.t.num, ws x.t.den, bl x.half], a.av] (bl true):=by
 have hrr:aqe [[x.t]]:=fun y hy=>by rw [List.mem_singleton.1 hy]; exact ⟨fun z hz=>by rw [List.mem_singleton.1 hz]; exact hxw,by show 1 <= _; omega⟩
 refine gF0 func4 ?_;refine gc ap5 ?_;refine gcG (fun _=>(ax3 l hw)) ?_;refine gcG (fun _=>(aw0 a ha)) ?_;refine gcG (fun _=>(Con.subA (.cons (.agg (.cons (.nil _ _ _) .nil) rfl) (.cons (.refl _) .nil)) (aku [] [[x.t]] a61 hrr (by show 0 <= _; omega) (by show 1 <= _; omega)))) ?_;refine gC (fun ht41=>?_) (fun ht41=>?_)
 ·refine gc ap5 ?_;refine gE1 ?_;rfl
 ·obtain ⟨h1, h2, h3⟩:=bpk ht41;have hl:=bk8 h1 hw;have al:=bni h2 ha;obtain ⟨hxo,hxq⟩:=bqf h3 hxw;have hn:=bg4 h2
  obtain ⟨S, E, hSE, hE, hE0⟩:∃ (S:List AV) (E:Nat), FnC prog 9 [l.av, i64 k, x.av, a.av] (.tup [.lst 3 S, aik E]) /\ (E ≠ 0 -> S = []) /\ (E = 0 -> dyE l k a false = 0 /\ S = (avq l a (gAt l k) x).1 /\ (avq l a (gAt l k) x).2 = 0):=by
   refine ⟨_,_,arl l hl k hxo hxq a al hn,bbd,fun h=>?_⟩;have h9:=bkk h;unfold a38 at h ⊢;rw [if_pos h9] at h ⊢;exact ⟨h9,rfl,h⟩
  refine gc hSE ?_;refine gC (fun ht54=>?_) (fun ht54=>?_)
  ·have h4:=hE (aea ht54);subst h4;refine ge rfl ?_;refine gE1 ?_;rfl
  ·have h4:=adu ht54;obtain ⟨h5,h6,h7⟩:=hE0 h4;subst h4;obtain ⟨n,g,ok⟩:=bhc h5;have hgA:gAt l k = g:=by unfold gAt; rw [ok.hk,toNat_natCast]; exact aag ok.hg
   rw [hgA] at h6 h7;obtain ⟨Z,hZ,hP⟩:=be2 ⟨hl,ok.li,al,ok.chk⟩ (hn ok.chk) ok hxq;rw [hZ] at h6;subst h6
   have hSol2:FnC prog 9 [l.av, i64 k, x.av, .agg [.lst 1 (a.rs.map nR), .lst 4 ((ay4 a.bs g.bodies).map Pl.av), .v (.slice none 0 0)]] (.tup [.lst 3 (Z.map Sv.av), .v .nilIface]):=by
    have h9:=arl l hl k hxo hxq _ (bj4 al g.bodies) hn;rw [bj5 h5 (alk _ _) (by rw [hgA]; exact a0u _ _ (fun b hb=>(ok.ok.b b hb).1))] at h9;unfold a38 at h9;rw [if_pos h5,hgA] at h9;unfold rsA at h9;rw [hZ,h7] at h9;exact Con.subA (.cons (.refl _) (.cons (.refl _) (.cons (.refl _) (.cons (Sub.agg (.cons (.refl _) (.cons (.refl _) (.cons (.nil _ _ _) .nil))) rfl) .nil)))) h9
   have hSp:=ayb l hl ok.li;rw [ok.sp] at hSp;have hgn:=(List.getElem?_eq_some_iff.1 ok.hg).1;have hbl:=al.bl;have hln:=ok.ln;have hll:=al.ll;have two:=hP.two;have glb:=ok.ok.lb;obtain rfl:=ok.hk;refine gc hSp ?_;refine glG ?_;refine glG ?_;refine gC (fun ht81=>?_) (fun ht81=>?_) (st1:=(8,0))
   ·exact absurd ht81 (fun h9=>bg3 h9 (by omega) (by omega) two)
   ·refine gl ?_;refine gL1 [3,4,5,7,9,82,83] [3,4,5] (fun (i:Nat)=>[(84,some (i64 i))]) (fun _=>[]) (fun i=>i <= Z.length) (fun i=>Z.length - i) 0 (zero_le _) ?_;rintro i hi K1 hK1;refine gC (fun ht85=>?_) (fun ht85=>?_)
    ·have hin:=abv ht85;obtain ⟨s,hs⟩:=acj hin;obtain ⟨m1,m2,m3⟩:=hP.md i s hs;refine gi (aai hs) ?_;refine gl ?_;refine gD ?_;refine gl ?_;refine gJ0 [3,4,5,7,9,82,83,84,12] [3,4,5,12] [(13,some (i64 (if Z.length = 2 then 1 - 2 * (i:Int) else 0))),(14,some (i64 ((a.rs.length + (if Z.length = 2 then 1 else 0):Nat))))] [] (True) ?_ ?_
     ·intro K2 hK2;refine gC (fun ht95=>?_) (fun ht95=>?_)
      ·have hz2 : Z.length = 2 := by have := aeq ht95; omega
       refine ga (show _ = 2 * (i:Int) by exact aoi (by omega)) ?_;refine ga (show _ = 1 - 2 * (i:Int) by exact abd (by omega)) ?_;refine ga (show _ = ((a.rs.length + 1:Nat):Int) by exact at8 (by unfold ac0; omega)) ?_;exact jK0 hK2 trivial (hw:=Wk.of (.cons rfl (Sub.int (if_pos hz2).symm) (.cons rfl (Sub.int (by rw [if_pos hz2])) (.k (.k (.k (.k (.k (.k (.k (.k (.k .nil))))))))))) (.cons rfl (.refl _) (.cons rfl (.refl _) (.cons rfl (.refl _) (.cons rfl (.refl _) .nil)))))
      ·have hz2 : Z.length ≠ 2 := by have := afw ht95; omega
       exact jK0 hK2 trivial (hw:=Wk.of (.cons rfl (Sub.int (if_neg hz2).symm) (.cons rfl (Sub.int (by simp [hz2])) (.k (.k (.k (.k (.k (.k (.k (.k (.k .nil))))))))))) (.cons rfl (.refl _) (.cons rfl (.refl _) (.cons rfl (.refl _) (.cons rfl (.refl _) .nil)))))
     ·rintro -;refine gi (aai ok.hg) ?_;refine gJ0 [3,4,5,7,9,82,83,84,12,14] [3,4,5,12] [(13,some (i64 (if g.kind = 0 then 1 else if Z.length = 2 then 1 - 2 * (i:Int) else 0)))] [] (True) ?_ ?_
      ·intro K3 hK3;refine gC (fun ht107=>?_) (fun ht107=>?_)
       ·have hgk:g.kind = 0:=aeq ht107;exact jK0 hK3 trivial (hw:=Wk.of (.cons rfl (Sub.int (if_pos hgk).symm) (.k (.k (.k (.k (.k (.k (.k (.k (.k (.k .nil))))))))))) (.cons rfl (.refl _) (.cons rfl (.refl _) (.cons rfl (.refl _) (.cons rfl (.refl _) .nil)))))
       ·have hgk:g.kind ≠ 0:=afw ht107;exact jK0 hK3 trivial (hw:=Wk.of (.cons rfl (Sub.int (if_neg hgk).symm) (.k (.k (.k (.k (.k (.k (.k (.k (.k (.k .nil))))))))))) (.cons rfl (.refl _) (.cons rfl (.refl _) (.cons rfl (.refl _) (.cons rfl (.refl _) .nil)))))
      ·rintro -;refine glG ?_;refine glG ?_;refine giG (fun _=>(aai ok.hg)) ?_;refine glG ?_;refine gD ?_;refine gC (fun ht132=>?_) (fun ht132=>?_) (st1:=(18,0))
       ·exact absurd ht132 (by rw [m1,m2,m3,aue]; simp [aaa])
       ·refine ga aa0 ?_;exact gK1 hK1 (i + 1) hin
    ·refine gs (acp T37 rfl T67 rfl rfl rfl) ?_;refine gs (aa5 (.tmp rfl) rfl rfl (.tmp rfl) T37 rfl T67 rfl rfl (by dsimp only; rw [length_map]; omega) rfl rfl) ?_;refine gD ?_;refine gi (aai ok.hg) ?_;refine gl ?_;refine gL1 [3,4,5,7,9,15,146,147] [3,4,5] (fun (j:Nat)=>[(148,some (i64 j))]) (fun j=>[(15,some (.box [.lst 1 (a.rs.map nR),.ms 139 4 0 a.bs.length,.v (.slice none 0 0)])),(139,some (.row 4 ((ay4 a.bs (g.bodies.take j)).map Pl.av)))]) (fun j=>j <= g.bodies.length) (fun j=>g.bodies.length - j) 0 (zero_le _) ?_ (h2:=(.cons rfl (BlkSub.of (by rw [length_map,Nat.zero_add])) (.cons rfl (BlkSub.of rfl) .nil)))
     rintro j hj K4 hK4;refine gC (fun ht149=>?_) (fun ht149=>?_) (st2:=(28,0))
     ·have hjn:=abv ht149;obtain ⟨b,hb⟩:=acj hjn;obtain ⟨b0,b1⟩:=ok.ok.b b (mem_of_getElem? hb);obtain ⟨m,rfl⟩:∃ m:Nat,b = (m:Int):=⟨b.toNat,by omega⟩
      have hpl:=alk (g.bodies.take j) a.bs;obtain ⟨p0,hp0⟩:=acj (l:=ay4 a.bs (g.bodies.take j)) (i:=m) (by omega);refine gi (aai hb) ?_;refine gC (fun ht156=>?_) (fun ht156=>?_) (st1:=(25,0))
      ·exact absurd ht156 (by simp [aaa]; omega)
      ·refine gs (bh1 (.const _) T46 rfl T29 rfl rfl (by omega) (by dsimp only; omega) rfl) ?_;refine gc (a1n 7 (by omega)) ?_;refine gs (aar (n:=m) (.tmp rfl) (.tmp rfl) T37 rfl T67 rfl (by omega) (by omega) rfl) ?_ (26,9);refine gs (aa2 (.tmp rfl) rfl (aai hp0) rfl (.tmp rfl) rfl rfl T67 rfl rfl) ?_;refine gD ?_;refine ga aa0 ?_;exact gK1 hK4 (j + 1) hjn (hw:=Wk.of abj (.cons rfl (.refl _) (.cons rfl (by rw [aap hb,a70,toNat_natCast]; exact bgj) (.cons rfl (.refl _) (.cons rfl (.refl _) (.cons rfl (.refl _) .nil))))))
     ·have ej : g.bodies.take j = g.bodies := take_of_length_le (by have := a5w ht149; omega);rw [ej];refine gW ((Wk.freeze (k:=139) rfl).trans <| Wk.of (sl:=[(3,some (.ptr 3 0)),(4,some (.ptr 4 0)),(7,some (.lst 3 (Z.map Sv.av))),(15,some (.ptr 15 0))]) (hp:=[(3,some (.box l.av.cells)),(4,some (.box [i64 (n:Int),bl x.t.neg,ws x.t.num,ws x.t.den,bl x.half])),(15,some (.box [.lst 1 (a.rs.map nR),.lst 4 ((ay4 a.bs g.bodies).map Pl.av),.v (.slice none 0 0)]))]) abj (.cons rfl (.refl _) (.cons rfl (.refl _) (.cons rfl (BlkSub.of (by show Blk.box [.lst 1 (a.rs.map nR),AV.fz 139 4 ((ay4 a.bs g.bodies).map Pl.av) (.ms 139 4 0 a.bs.length),.v (.slice none 0 0)] = _; rw [abu (by rw [length_map,alk])])) .nil)))) ?_
      refine gc hSol2 ?_;refine gcG (fun _=>(ayz hP.ok two)) ?_;refine gE1 ?_;rfl
end Go.Lw
namespace Go.Lw
open Go.Proofs Go.Proofs.YtnhbhlcebbmdoaaGreat
open Go.ChangeShapes Go.WideShapes Go.ChangeAt Go.RowKit
abbrev brz (q:Int × Tn):List AV:=[i64 q.1,bl q.2.t.neg,ws q.2.t.num,ws q.2.t.den,bl q.2.half]
theorem a92 {W:World} {H:Type} {enc:TypeId × Value -> H}:adr prog W enc 33 (fun q:Int × Tn=>.agg (brz q)) (fun q=>q.2.t.wok) :=
 (ab5 (n := 5) Tryz.underlying33 (by kernel_rfl)
  (.cons rfl (n:=1) (by kernel_rfl) amd (fun _=>rfl) (.cons rfl (n:=4) (by kernel_rfl) bf3 (fun _=>rfl) (.nil _))) (fun _=>rfl)).map
  (fun z=>(z.1,z.2.1)) _ _ (fun z h=>⟨h.2.1,rfl⟩)
set_option maxRecDepth 100000 in
theorem an1 (os:Os) (started:os.Started) (H:Type) (enc:TypeId × Value -> H) :
  ReturnsInHanded {} Tryz.checked os 4 .any (Rows.dyadModesSpec.pre6 enc prog Tryz.f4 Rows.dyadModesRow.domain false) (Rows.dyadModesSpec.post enc prog Tryz.f4 false true false false):=by
 refine returnsInHanded_of_change_sized (C := Tryz.checked) own started (by kernel_rfl) func4
  (ChangeSpec.witness6 (enc:=enc) (C:=Tryz.checked) false ⟨#[],#[.agg #[.string ⟨#[]⟩,.slice none 0 0,.slice none 0 0,.slice none 0 0],.agg #[.int .i64 0,.bool false,.slice none 0 0,.slice none 0 0,.bool false],.agg #[.slice none 0 0,.slice none 0 0,.slice none 0 0]],[]⟩ 8 (by kernel_rfl) (by kernel_rfl) (by kernel_rfl) (by kernel_rfl)) ?_
 intro W base args ds gs before hval0 hW hcnd hwt0 _;have hval:∀ (j:Nat) t v,Tryz.f4.params[j]? = some t -> args[j]? = some v -> Value.okWide prog W .any base t v:=hval0;have hwt:(DataW.weightsEach prog (Tryz.f4.params.toList ++ Rows.dyadModesSpec.plain.varTypes prog) (ds ++ gs)).all (· <= reachBytes) = true:=hwt0;have hW':=hW;obtain ⟨p,q,hA0,hV,rfl,hfz,hnd⟩:=hW;have hA:DataW.TrodAll enc prog W 0 (fun _=>true) true Tryz.f4.params.toList args.toList ds p:=hA0;rw [Tryz.params4] at hA hval hwt;obtain ⟨v0,v1,v2,d0,d1,d2,p0,p1,p2,rfl,rfl,rfl,h0,h1,h2⟩:=trodAll_three hA;obtain ⟨rfl,rfl⟩:=trodVars_none hV;clear hA0 hval0 hwt0;have hlt:∀ x ∈ p0 ++ p1 ++ p2,x.block < W.heap.size:=fun x hx=>hW'.lt x (by simpa using hx)
 have hw0:∀ n ∈ d0.weights prog 26, n <= reachBytes:=fun n hn=>by
  have:=List.all_eq_true.1 hwt n (DataW.weights_mem_each (j:=0) rfl rfl n hn);simpa using this
 have hw1:∀ n ∈ d1.weights prog 33, n <= reachBytes:=fun n hn=>by
  have:=List.all_eq_true.1 hwt n (DataW.weights_mem_each (j:=1) rfl rfl n hn);simpa using this
 have hw2:∀ n ∈ d2.weights prog 40, n <= reachBytes:=fun n hn=>by
  have:=List.all_eq_true.1 hwt n (DataW.weights_mem_each (j:=2) rfl rfl n hn);simpa using this
 obtain ⟨x0,q0,r0⟩:=azn Tryz.underlying26 bhe (hval 0 26 v0 rfl rfl) h0 hw0;obtain ⟨x1,q1,r1⟩:=azn Tryz.underlying33 a92 (hval 1 33 v1 rfl rfl) h1 hw1;obtain ⟨x2,q2,r2⟩:=azn Tryz.underlying40 bld (hval 2 40 v2 rfl rfl) h2 hw2
 have hc:=FnC.calls (W:=W) (vs:=#[v0, v1, v2]) (at0 x0 q0 x1.1 x1.2 q1 x2 q2) rfl (fun j v x hv hx=>by
  match j,hv,hx with
  | 0,hv,hx=>cases hv; cases hx; exact r0
  | 1,hv,hx=>cases hv; cases hx; exact r1
  | 2,hv,hx=>cases hv; cases hx; exact r2)
 refine hc.mono fun e W' ⟨he,hb⟩=>?_
 subst he;refine ⟨_,rfl,atq hW' rfl rfl (fun _ _ _=>trodAll_mk1 (shut_bool Tryz.underlying4 _)) (fun sp hsp=>?_) rfl hb (ok_one (by kernel_rfl) rfl (okWide_bool_mk Tryz.underlying4 _))⟩;rw [Tryz.params4];have hs:∀ x ∈ p0 ++ p1 ++ p2,sp x.block = true:=fun x hx=>hsp x (by simpa using hx)
 have g0:=atb (sp':=sp) (by kernel_rfl) (of_decide_eq_true (by kernel_rfl)) h0 hb (fun x hx=>hlt x (by simp [hx])) (fun x hx=>hs x (by simp [hx]));have g1:=atb (sp':=sp) (by kernel_rfl) (of_decide_eq_true (by kernel_rfl)) h1 hb (fun x hx=>hlt x (by simp [hx])) (fun x hx=>hs x (by simp [hx]));have g2:=atb (sp':=sp) (by kernel_rfl) (of_decide_eq_true (by kernel_rfl)) h2 hb (fun x hx=>hlt x (by simp [hx])) (fun x hx=>hs x (by simp [hx]));have g:=trodAll_mk3 g0 g1 g2;rw [show p0 ++ p1 ++ p2 ++ [] = p0 ++ (p1 ++ p2) from by simp];exact g
set_option maxRecDepth 100000 in
theorem as1:prog.closure 4 = [4,5,16,52,133,15,50,132,228,51,49,128,222,285,223,129,130,224,286,290,288,279,287,226,131,225,289,227,17,35,104,208,103,206,207,278,209,105,210,280,9,23,69,155,159,245,300,324,325,341,246,243,298,266,310,312,316,315,329,330,259,331,332,335,333,334,268,170,169,299,264,311,247,301,302,326,269,271,317,248,240,295,319,336,321,339,340,338,296,320,337,323,322,297,156,241,70,157,242,158,164,194,261,175,244,234,292,236,168,265,267,313,314,293,275,233,172,270,165,262,71,160,249,72,162,260,161,250,256,308,251,303,252,304,305,253,306,307,327,254,255,257,258,73,163,24,74,166,167,77,177,263,309,328,75,76,140,141,230,196,79,134,171,197,148,276,231,147,235,274,143,291,142,78,138,176,64,145,232,149,55,89,198,277,61,146,59,62,80,25,54,135,82,81,173,272,174,57,83,136,187,188,189,192,137,229,144,190,185,181,191,182,178,179,180,273,183,184,186,87,193,195,84,90,26,58,139,85,27,65,150,60,66,63,86,88,18,53,56,19,67,151,123,219,238,152,237,294,239,216,282,106,153,154,212,21,20,68,6,7,8,22,14,47,124,48,125,220,126,221,284,127,13,45,46]:=by kernel_rfl
theorem an6:joinedFacts prog 4 Tryz.f4 Rows.dyadModesSpec Rows.dyadModesRow = true:=by
 unfold joinedFacts Program.recurses Program.inPlace Program.unfollowed Program.varsNamed;rw [as1,a7b,bct,bak,bf1,bdc,bch]
 kernel_rfl
theorem dyadModes_holds:Rows.DyadModesSaid :=
 OpenClaim.holds_of_wide 4 Tryz.f4 rfl rfl rfl rfl rfl rfl rfl ⟨rfl, rfl, rfl, rfl, rfl⟩ rfl rfl rfl rfl rfl (by kernel_rfl) func4 an6
  (of_decide_eq_true (by kernel_rfl)) (by unfold Func.isWrapper; first | (rw [if_pos (by decide +kernel)]; kernel_rfl) | (rw [if_neg (by decide +kernel)]; exact ⟨rfl,rfl⟩))
  (fun os started H enc _=>an1 os started H enc)
end Go.Lw
namespace Go.Proofs.YtnhbhlcebbmdoaaGreat
theorem dyadModes_proved:Rows.DyadModesSaid:=Go.Lw.dyadModes_holds
end Go.Proofs.YtnhbhlcebbmdoaaGreat
