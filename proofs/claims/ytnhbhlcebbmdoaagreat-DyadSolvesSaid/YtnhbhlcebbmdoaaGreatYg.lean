/- DyadSolves: for any linkage, any group and turn, any assembly the law returns true and leaves its arguments as they were. No other condition. Part 7 of 8: what the later parts need -/
import Derived.Test.YtnhbhlcebbmdoaaGreatYf
set_option linter.unusedVariables false
open List (mem_of_getElem? mem_append mem_cons length_cons mem_cons_self length_append length_nil getD_eq_getElem?_getD getElem?_eq_none all_eq_true getElem?_take getElem?_map getElem?_eq_getElem nil_append map_append length_take take_of_length_le drop_zero take_length not_mem_nil length_map mem_of_mem_take map_take map_map map_replicate map_set)
open Nat (le_refl lt_or_ge le_trans zero_le)
open Bool (and_eq_true)
open Int (toNat_natCast)
open Go.Proofs.Tryz
namespace Go.Lw
open Go.Proofs
structure MtOk (ts:LL) (m:Mt):Prop where
  tw:∃ r,Tw m.ts r /\ kB r m.ts.length <= 1000000000
  two:m.ts.length <= 2
  ln:m.ps.length <= 2
  ps:∀ x ∈ m.ps,Nm m.ts.length 15000000000 x.1 /\ Nm m.ts.length 15000000000 x.2
  up:∀ (e:Nat) (y:Et ts),Nm ts.length e (sX y) -> Nm m.ts.length e (sX y) /\ sX (dE m.ts (sX y)) = sX y
theorem ast {ts:LL} (e:Nat) (y:Et ts) (h:Nm ts.length e (sX y)):Nm ts.length e (sX y) /\ sX (dE ts (sX y)) = sX y:=⟨h,congrArg (sh ts.length) (aa4 _ _)⟩
theorem asj {ts:LL} {X:Et ts} (hn:ts.length <= 1) (e:Nat) (y:Et ts) (h:Nm ts.length e (sX y)):Nm (ab2 ts (sX X)).length e (sX y) /\ sX (dE (ab2 ts (sX X)) (sX y)) = sX y:=by
 refine ⟨afs h oz,?_⟩;show sh (ab2 ts (sX X)).length (dec (ab2 ts (sX X)).length (sX y)) = sX y;rw [acv,afq h.nl.le];show (if T.isZ ts.length (T.zero ts.length) = true then sh ts.length (dec ts.length (sX y)) else _) = _;rw [if_pos ((T.isZ_iff _ _).2 rfl)];exact congrArg (sh ts.length) (aa4 _ _)
theorem aio {ts:LL} {ps:List (List Rat × List Rat)} (tw:Tw ts 40000) (hn:ts.length <= 1) (hl:ps.length <= 2) (hp:∀ x ∈ ps, Nm ts.length 15000000000 x.1 /\ Nm ts.length 15000000000 x.2):MtOk ts ⟨ts, ps⟩ :=
 ⟨⟨40000,tw,by have:=kb4 tw.three; show kB 40000 ts.length <= _; omega⟩,by show ts.length <= 2; omega,hl,hp,ast⟩
theorem a2r {ts:LL} {X:Et ts} {ps:List (List Rat × List Rat)} (E:ExtP X) (hn:ts.length <= 1) (hl:ps.length <= 2) (hp:∀ x ∈ ps, Nm (ab2 ts (sX X)).length 15000000000 x.1 /\ Nm (ab2 ts (sX X)).length 15000000000 x.2):MtOk ts ⟨ab2 ts (sX X), ps⟩ :=
 ⟨⟨300644000, E.tw, by
  have h:=atl 300644000 (show ts.length + 1 <= 2 by omega);have h2:eB 300644000 2 = 901932006:=by decide
  show eB 300644000 (ab2 ts (sX X)).length <= _;rw [acv]; omega⟩,by show (ab2 ts (sX X)).length <= 2; rw [acv]; omega,hl,hp,asj hn⟩
theorem atk {ts:LL} {m:Mt} (ok:MtOk ts m) {x:List Rat × List Rat} (hx:x ∈ m.ps) {p c:Rat × Rat} {o:P2 ts} (a1:Nm ts.length 700000000 (sX o.1)) (a2:Nm ts.length 700000000 (sX o.2)) (hp:Sm 1000 p) (hc:Sm 1000 c)
  (h0:aht (afp c p) (afp c p) ≠ 0):HdP m.ts x ⟨p,o.l,c⟩:=by
 obtain ⟨r,tw,hk⟩:=ok.tw;obtain ⟨n1,n2⟩:=ok.ps x hx;obtain ⟨b1,e1⟩:=ok.up _ _ a1;obtain ⟨b2,e2⟩:=ok.up _ _ a2;have hl:lm m.ts.length = 200000000000:=by unfold lm; rw [if_pos ok.two]
 refine ⟨hp,hc,ar1 tw n1 b1 (by rw [hl]; omega),ar1 tw n2 b2 (by rw [hl]; omega),e1,e2,a6j tw ok.two hk ((hc.sub hp).mono oz) (hp.mono oz) h0 ((n1.sub b1).mono oz) ((n2.sub b2).mono oz) ?_ ?_⟩
 ·show Nm m.ts.length 700000000 (sX (dE m.ts (sX o.1)));rw [e1]; exact b1
 ·show Nm m.ts.length 700000000 (sX (dE m.ts (sX o.2)));rw [e2]; exact b2
theorem bfn {α:Type} {P:α -> Prop} {x y:α} (hx:P x) (hy:P y):∀ z ∈ [x, y], P z:=by
 intro z hz;rcases List.mem_cons.1 hz with rfl | hz
 ·exact hx
 ·rw [List.mem_singleton.1 hz]; exact hy
theorem a9k {α:Type} {P:α -> Prop} {x:α} (hx:P x):∀ z ∈ [x], P z:=by
 intro z hz;rw [List.mem_singleton.1 hz]; exact hx
theorem a1q {ts:LL} {x y z x2 y2 z2:Et ts} (tw:Tw ts 40000) (hn:ts.length <= 1) (c:Ct ts 4000 300000) (h1:Zu 4000 300000 x 40 40) (h2:Zu 4000 300000 y 40 40) (h3:Zu 4000 300000 z 3 0) (h4:Zu 4000 300000 x2 40 40) (h5:Zu 4000 300000 y2 40 40) (h6:Zu 4000 300000 z2 3 0)
  (h0:atf (x,y) (x2,y2) z z2 = 0):MtOk ts (asq (x,y) (x2,y2) z z2):=by
 have P:=a0e c h1 h2 h3 h4 h5 h6;have ce:=c.ex;have ck:=c.k1;have cu:=c.u3;haveI cy:Cy ts 4000 300000:=⟨ce,ck,cu,by omega⟩
 unfold atf at h0;unfold asq
 by_cases hd:sgE (d2E (x,y) (x2,y2)) = 0
 ·rw [if_pos hd] at h0 ⊢;unfold bbx at h0;unfold bbu
  by_cases hz:sgE (z - z2) ≠ 0
  ·rw [if_pos hz];exact aio tw hn (by simp) (by simp)
  ·rw [if_neg hz]
   by_cases hp:0 < sgE z
   ·rw [if_pos ⟨Decidable.not_not.1 hz,hp⟩] at h0; cases h0
   ·rw [if_neg hp];haveI:=h1; haveI:=h2
    refine aio tw hn (by simp) (a9k ⟨?_,?_⟩)
    ·exact (inferInstance:Zu 4000 300000 (x + 0 * x) _ _).nm.mono (by decide)
    ·exact (inferInstance:Zu 4000 300000 (y + 0 * y) _ _).nm.mono (by decide)
 ·rw [if_neg hd];have ht0:sgE (twE (d2E (x,y) (x2,y2))) ≠ 0:=by rw [bhj tw]; exact hd
  by_cases hx0:sgE (ajy (x,y) z (x2,y2) z2) < 0
  ·rw [if_pos hx0]; exact aio tw hn (by simp) (by simp)
  ·rw [if_neg hx0];obtain ⟨_,_,f1,f2⟩:=bg2 hn h1 h2 h3 h6 P ht0
   by_cases hx1:sgE (ajy (x,y) z (x2,y2) z2) = 0
   ·rw [if_pos hx1]; exact aio tw hn (by simp) (a9k ⟨f1.nm.mono (by decide),f2.nm.mono (by decide)⟩)
   ·rw [if_neg hx1];have E:ExtP (ajy (x,y) z (x2,y2) z2):=ame tw hn P.zX oz;have S:=a3c (X:=ajy (x,y) z (x2,y2) z2) (d:=d2E (x,y) (x2,y2)) (f:=apz (x,y) (x2,y2) z z2) (v:=awr (x,y) (x2,y2)) hn E P.zt ht0 f1 f2 P.z1 P.z2;exact a2r E hn (by simp) (bfn ⟨S.n1.1.nm.mono (by decide),S.n1.2.nm.mono (by decide)⟩ ⟨S.n2.1.nm.mono (by decide),S.n2.2.nm.mono (by decide)⟩)
theorem a0f {ts:LL} {o p q:P2 ts} {z:Et ts} (tw:Tw ts 40000) (hn:ts.length <= 1) (c:Ct ts 4000 300000) (o1:Zu 4000 300000 o.1 40 40) (o2:Zu 4000 300000 o.2 40 40) (p1:Zu 4000 300000 p.1 40 40) (p2:Zu 4000 300000 p.2 40 40) (q1:Zu 4000 300000 q.1 40 40) (q2:Zu 4000 300000 q.2 40 40)
  (i3:Zu 4000 300000 z 3 0) (h0:azv p q = 0):MtOk ts (axj p q o z):=by
 have ce:=c.ex;have ck:=c.k1;have cu:=c.u3;haveI cy:Cy ts 4000 300000:=⟨ce,ck,cu,by omega⟩
 have P:=a0h cy p1 p2 q1 q2 o1 o2 i3;unfold azv at h0;unfold axj
 by_cases hs:sgE (lnS p q) = 0
 ·rw [if_pos hs] at h0; cases h0
 ·rw [if_neg hs]
  by_cases h1:sgE (lnX p q o z) = -1
  ·rw [if_pos h1]; exact aio tw hn (by simp) (by simp)
  ·rw [if_neg h1]
   by_cases h2:sgE (lnX p q o z) = 0
   ·rw [if_pos h2];have Q:=baw cy hn p1 p2 P hs;exact aio tw hn (by simp) (a9k ⟨Q.n1.nm.mono (by decide),Q.n2.nm.mono (by decide)⟩)
   ·rw [if_neg h2]
    have hpos:0 <= sgE (lnX p q o z):=by
     have:=T.sgn_cases (aae ts) ts.length (lnX p q o z);have e:sgE (lnX p q o z) = T.sgn (aae ts) ts.length (lnX p q o z):=rfl;omega
    have E:ExtP (lnX p q o z):=ame tw hn (bjv P.zX oz oz) hpos;haveI ce:=E.cy;haveI zr:Zl (ab2 ts (sX (lnX p q o z))) 700000000 1000000000 (adb ts.length) (dE _ (adb ts.length)) 1 0:=Zl.at (aov oz) (by decide);haveI ze':=ali (X:=lnX p q o z) hn P.ze (by decide);haveI:=zr.zu; haveI:=ze'.zu
    have S1:=aum (p:=p) (v:=sbE q p) hn E P.zs hs p1 p2 P.v1 P.v2 (k:=upE (lnX p q o z) (lnE p q o) + lnR (lnX p q o z)) inferInstance;have S2:=aum (p:=p) (v:=sbE q p) hn E P.zs hs p1 p2 P.v1 P.v2 (k:=upE (lnX p q o z) (lnE p q o) - lnR (lnX p q o z)) inferInstance;exact a2r E hn (by simp) (bfn ⟨S1.n1.nm.mono (by decide),S1.n2.nm.mono (by decide)⟩ ⟨S2.n1.nm.mono (by decide),S2.n2.nm.mono (by decide)⟩)
abbrev rsA (r:List AV × Nat):AV:=.tup [.lst 3 r.1,ai2 r.2]
def a5r (l:Li) (a:As) (i k:Int) (j0 j1 j2:Jt):List AV × Nat :=
  if ah9 [afp (aak l j2 i) (aak l j0 i),afp (aak l j2 k) (aak l j1 k)] = true then ([],15)
  else if atf (aa1 l a j0 i) (aa1 l a j1 k) (qE (sqQ (aak l j2 i) (aak l j0 i))) (qE (sqQ (aak l j2 k) (aak l j1 k))) ≠ 0 then ([],atf (aa1 l a j0 i) (aa1 l a j1 k) (qE (sqQ (aak l j2 i) (aak l j0 i))) (qE (sqQ (aak l j2 k) (aak l j1 k))))
  else (plL (asq (aa1 l a j0 i) (aa1 l a j1 k) (qE (sqQ (aak l j2 i) (aak l j0 i))) (qE (sqQ (aak l j2 k) (aak l j1 k)))) [⟨aak l j0 i, P2.l (aa1 l a j0 i), aak l j2 i⟩, ⟨aak l j1 k, P2.l (aa1 l a j1 k), aak l j2 k⟩]
    (asq (aa1 l a j0 i) (aa1 l a j1 k) (qE (sqQ (aak l j2 i) (aak l j0 i))) (qE (sqQ (aak l j2 k) (aak l j1 k)))).ps.length,0)
theorem av8 {l:Li} {a:As} (D:DyR l a) (hn:(llq a.rs).length <= 1) {i k z0 z1 z2:Int} {j0 j1 j2:Jt} (hg:GrOk l ⟨1, [i, k], [z0, z1, z2], 0⟩) (P:RrrP l a ⟨1, [i, k], [z0, z1, z2], 0⟩ i k z0 z1 z2 j0 j1 j2) :
  Con prog 25 [.ptr 1000 0] [(1000,some (svB l ⟨1,[i,k],[z0,z1,z2],0⟩ a))] (rsA (a5r l a i k j0 j1 j2)) [(1000,some (svB l ⟨1,[i,k],[z0,z1,z2],0⟩ a))]:=by
 haveI c:=D.al.ct D.hc;obtain ⟨tw,etw⟩:=abr D.al.tr D.hc;have hq0:=ach D.hl D.li P.h0 P.p0.or;have hq1:=ach D.hl D.li P.h1 P.p1.or;have hq2:=ach D.hl D.li P.h2 P.t1;have hq3:=ach D.hl D.li P.h2 P.t2;obtain ⟨y1,y2⟩:=aek D.hl D.li D.al D.hc P.h0 P.p0;obtain ⟨y3,y4⟩:=aek D.hl D.li D.al D.hc P.h1 P.p1;haveI:=y1; haveI:=y2; haveI:=y3; haveI:=y4
 haveI q1:=a6c hq2 hq0;haveI q2:=a6c hq3 hq1;haveI z1:Zu 4000 300000 (qE (sqQ (aak l j2 i) (aak l j0 i)):Et (llq a.rs)) 3 0:=inferInstance;haveI z2:Zu 4000 300000 (qE (sqQ (aak l j2 k) (aak l j1 k)):Et (llq a.rs)) 3 0:=inferInstance;have hr:=axv (a:=sX (aa1 l a j0 i).1) (b:=sX (aa1 l a j0 i).2) (c:=sh 0 (sqQ (aak l j2 i) (aak l j0 i):Rat)) (a2:=sX (aa1 l a j1 k).1) (b2:=sX (aa1 l a j1 k).2) (c2:=sh 0 (sqQ (aak l j2 k) (aak l j1 k):Rat)) D.al.tr D.hc hn rfl rfl (axy _ _) (axy _ _);have hzz:=ax8 [afp (aak l j2 i) (aak l j0 i),afp (aak l j2 k) (aak l j1 k)] (by show 2 <= _; omega) (bfn ((hq2.sub hq0).mono oz) ((hq3.sub hq1).mono oz));refine gF func25 (fun k z h=>aa3 h) ?_;refine gt (aaf (a21 D.hl D.li D.al D.hc hg P.h0 P.h1 P.h2 P.p0 P.p1 P.t1 P.t2) (ev1 rfl) rfl rfl rfl) ?_;refine gC (fun ht13=>?_) (fun ht13=>?_) (st1:=(3,0))
 ·cases ht13
 ·refine gc (ahp hq2 hq0 oz oz) ?_;refine gc (ahp hq3 hq1 oz oz) ?_;refine gc hzz ?_;refine gD ?_;refine gC (fun ht23=>?_) (fun ht23=>?_)
  ·have h1:ah9 [afp (aak l j2 i) (aak l j0 i), afp (aak l j2 k) (aak l j1 k)] = true:=ht23;refine gR ?_;exact (Fin.keep (abt rfl)).sub (by unfold a5r; rw [if_pos h1]; exact Sub.tup (.cons (.nil _ _ _) (.cons (.refl _) .nil)))
  ·have h1:ah9 [afp (aak l j2 i) (aak l j0 i), afp (aak l j2 k) (aak l j1 k)] = false:=ht23;obtain ⟨w1,w2⟩:=av7 h1;refine gc (afy hq0 hq2 _) ?_;refine gc (afy hq1 hq3 _) ?_;refine gc hr ?_;refine gD ?_;refine gC (fun ht51=>?_) (fun ht51=>?_)
   ·have h2:=aeq ht51;refine gR ?_;exact (Fin.keep (abt rfl)).sub (by unfold a5r; rw [if_neg (by rw [h1]; decide),if_pos h2]; exact Sub.tup (.cons (.nil _ _ _) (.cons (.refl _) .nil)))
   ·have h2:=ad1 ht51;have ok:=a1q (x:=(aa1 l a j0 i).1) (y:=(aa1 l a j0 i).2) (x2:=(aa1 l a j1 k).1) (y2:=(aa1 l a j1 k).2) tw hn c y1 y2 z1 y3 y4 z2 h2;obtain ⟨r9,tw9,_⟩:=ok.tw
    have hpl:=aq3 tw9 [⟨aak l j0 i, P2.l (aa1 l a j0 i), aak l j2 i⟩, ⟨aak l j1 k, P2.l (aa1 l a j1 k), aak l j2 k⟩] (le_refl 2) ok.ln
     (fun x hx=>bfn (atk ok hx (y1.nm.mono (by decide)) (y2.nm.mono (by decide)) hq0 hq2 w1) (atk ok hx (y3.nm.mono (by decide)) (y4.nm.mono (by decide)) hq1 hq3 w2))
    refine gc hpl ?_;refine gR ?_;exact (Fin.keep (abt rfl)).sub (Sub.of (by unfold a5r; rw [if_neg (by rw [h1]; decide),if_neg (fun h=>h h2)]; rfl))
def prR (l:Li) (a:As) (i:Int) (j0 j:Jt):List AV × Nat :=
  if ah9 [afp (mkQ l i j.point) (aak l j0 i)] = true then ([],15)
  else if azv (plE l a j.b j.on) (plE l a j.b j.to) ≠ 0 then ([],azv (plE l a j.b j.on) (plE l a j.b j.to))
  else (plL (axj (plE l a j.b j.on) (plE l a j.b j.to) (aa1 l a j0 i) (qE (sqQ (mkQ l i j.point) (aak l j0 i)))) [⟨aak l j0 i, P2.l (aa1 l a j0 i), mkQ l i j.point⟩]
    (axj (plE l a j.b j.on) (plE l a j.b j.to) (aa1 l a j0 i) (qE (sqQ (mkQ l i j.point) (aak l j0 i)))).ps.length,0)
theorem azt {l:Li} {a:As} (D:DyR l a) (hn:(llq a.rs).length <= 1) {i z0 z1:Int} {j0 j:Jt} (hg:GrOk l ⟨2, [i], [z0, z1], 0⟩) (P:SlP l a ⟨2, [i], [z0, z1], 0⟩ 2 i z0 z1 j0 j) (ha:j.a = i) (hb:Pd a j.b) :
  Con prog 26 [.ptr 1000 0] [(1000,some (svB l ⟨2,[i],[z0,z1],0⟩ a))] (rsA (prR l a i j0 j)) [(1000,some (svB l ⟨2,[i],[z0,z1],0⟩ a))]:=by
 haveI c:=D.al.ct D.hc;obtain ⟨tw,etw⟩:=abr D.al.tr D.hc;obtain ⟨i1,i2,i3,i4,i5⟩:=afv D.li P.h1;have hq2:Sm 1000 (mkQ l i j.point):=by rw [<- ha]; exact ajg D.hl D.li i1 i3
 have hq0:=ach D.hl D.li P.h0 P.p0.or;obtain ⟨y1,y2⟩:=aek D.hl D.li D.al D.hc P.h0 P.p0;obtain ⟨y3,y4⟩:=agu D.hl D.li D.al D.hc i2 i4 hb;obtain ⟨y5,y6⟩:=agu D.hl D.li D.al D.hc i2 (i5 P.hk) hb;haveI q1:=a6c hq2 hq0;haveI z1:Zu 4000 300000 (qE (sqQ (mkQ l i j.point) (aak l j0 i)):Et (llq a.rs)) 3 0:=inferInstance;have hr:=a76 (o:=aa1 l a j0 i) (p:=plE l a j.b j.on) (q:=plE l a j.b j.to) (c:=sh 0 (sqQ (mkQ l i j.point) (aak l j0 i):Rat)) D.al.tr D.hc hn c y1 y2 y3 y4 y5 y6 (axy _ _);have hzz:=ax8 [afp (mkQ l i j.point) (aak l j0 i)] (by show 1 <= _; omega) (a9k ((hq2.sub hq0).mono oz));refine gF func26 (fun k z h=>aa3 h) ?_;refine gt (aaf (a7f D.hl D.li D.al D.hc hg P.h0 P.h1 P.p0 ha P.hk hb) (ev1 rfl) rfl rfl rfl) ?_;refine gC (fun ht15=>?_) (fun ht15=>?_) (st1:=(3,0))
 ·cases ht15
 ·refine gc (ahp hq2 hq0 oz oz) ?_;refine gc hzz ?_;refine gC (fun ht25=>?_) (fun ht25=>?_)
  ·have h1:ah9 [afp (mkQ l i j.point) (aak l j0 i)] = true:=ht25;refine gR ?_;exact (Fin.keep (abt rfl)).sub (by unfold prR; rw [if_pos h1]; exact Sub.tup (.cons (.nil _ _ _) (.cons (.refl _) .nil)))
  ·have h1:ah9 [afp (mkQ l i j.point) (aak l j0 i)] = false:=ht25;have w1:=aut h1;refine gc (afy hq0 hq2 _) ?_;refine gc hr ?_;refine gD ?_;refine gC (fun ht48=>?_) (fun ht48=>?_)
   ·have h2:=aeq ht48;refine gR ?_;exact (Fin.keep (abt rfl)).sub (by unfold prR; rw [if_neg (by rw [h1]; decide),if_pos h2]; exact Sub.tup (.cons (.nil _ _ _) (.cons (.refl _) .nil)))
   ·have h2:=ad1 ht48;have ok:=a0f (o:=aa1 l a j0 i) (p:=plE l a j.b j.on) (q:=plE l a j.b j.to) (z:=qE (sqQ (mkQ l i j.point) (aak l j0 i))) tw hn c y1 y2 y3 y4 y5 y6 z1 h2;obtain ⟨r9,tw9,_⟩:=ok.tw;have hpl:=aq3 tw9 [⟨aak l j0 i,P2.l (aa1 l a j0 i),mkQ l i j.point⟩] (show 1 <= 2 by omega) ok.ln (fun x hx=>a9k (atk ok hx (y1.nm.mono (by decide)) (y2.nm.mono (by decide)) hq0 hq2 w1));refine gc hpl ?_;refine gR ?_;exact (Fin.keep (abt rfl)).sub (Sub.of (by unfold prR; rw [if_neg (by rw [h1]; decide),if_neg (fun h=>h h2)]; rfl))
end Go.Lw
namespace Go.Lw
open Go.Proofs
theorem amn {ts:LL} {r e:Nat} (tw:Tw ts r) {a b c:List Rat} (ha:Nm ts.length e a) (hb:Nm ts.length e b) (hc:Nm ts.length e c) (he:2 * (e + e + kB r ts.length) <= lm ts.length) :
  FnC prog 88 [aa5 ts,nA a,ptA b c] (.tup [ptA (sh ts.length (T.mul (aae ts) ts.length (dec ts.length a) (dec ts.length b))) (sh ts.length (T.mul (aae ts) ts.length (dec ts.length a) (dec ts.length c))),.v .nilIface]):=by
 refine gF0 func88 ?_;refine gc (ag5 (e:=e) tw [a,b,c] (by simp only [mem_cons,not_mem_nil,or_false]; rintro x (rfl | rfl | rfl) <;> assumption) oz (by simp)) ?_;refine gC (fun ht19=>?_) (fun ht19=>?_) (st1:=(3,0))
 ·cases ht19
 ·refine gt (aab (Con.rekeyB 24 rfl rfl rfl rfl (aem tw ha hb oz)) (ev3 rfl rfl rfl) hHa rfl rfl) ?_;refine gt (aab (Con.rekeyB 24 rfl rfl rfl rfl (aem tw ha hc oz)) (ev3 rfl rfl rfl) hHa rfl rfl) ?_;refine gt (aab (Con.rekeyB 24 rfl rfl rfl rfl (ajc _ _ _)) (ev2 rfl rfl) hHa rfl rfl) ?_;refine gD ?_;refine gE2 ?_;rfl
section
variable {ts:LL}
def rqX (q w1 w2 h:Et ts):Et ts:=q * w1 - h * -w2
def rqY (q w1 w2 h:Et ts):Et ts:=q * w2 - h * w1
def rqV (ts:LL) (q h d:List Rat) (w:List Rat × List Rat):P2 ts:=(rqX (dE ts q) (dE ts w.1) (dE ts w.2) (dE ts h) * iE (dE ts d),rqY (dE ts q) (dE ts w.1) (dE ts w.2) (dE ts h) * iE (dE ts d))
structure Rp where
  v:Rat × Rat
  p:Rat × Rat
  a:List Rat × List Rat
  h:List Rat
  d:List Rat
  w:List Rat × List Rat
def rqQ (ts:LL) (R:Rp) (q:List Rat):Pq:=bdQ R.v (rqV ts q R.h R.d R.w) R.p (dE ts R.a.1,dE ts R.a.2)
structure RqP (ts:LL) (R:Rp) (q:List Rat):Prop where
  sm:Sm 3000 R.v
  sp:Sm 3000 R.p
  c1:FnC prog 88 [aa5 ts,nA q,ptA R.w.1 R.w.2] (.tup [ptA (sX (dE ts q * dE ts R.w.1)) (sX (dE ts q * dE ts R.w.2)),.v .nilIface])
  ng:FnC prog 73 [aa5 ts,nA R.w.2] (.tup [nA (sX (-dE ts R.w.2)),.v .nilIface])
  c2:FnC prog 88 [aa5 ts,nA R.h,ptA (sX (-dE ts R.w.2)) R.w.1] (.tup [ptA (sX (dE ts R.h * -dE ts R.w.2)) (sX (dE ts R.h * dE ts R.w.1)),.v .nilIface])
  sb:FnC prog 60 [aa5 ts,ptA (sX (dE ts q * dE ts R.w.1)) (sX (dE ts q * dE ts R.w.2)),ptA (sX (dE ts R.h * -dE ts R.w.2)) (sX (dE ts R.h * dE ts R.w.1))] (.tup [ptA (sX (rqX (dE ts q) (dE ts R.w.1) (dE ts R.w.2) (dE ts R.h))) (sX (rqY (dE ts q) (dE ts R.w.1) (dE ts R.w.2) (dE ts R.h))),.v .nilIface])
  d1:FnC prog 198 [aa5 ts,nA (sX (rqX (dE ts q) (dE ts R.w.1) (dE ts R.w.2) (dE ts R.h))),nA R.d] (.tup [nA (sX (rqV ts q R.h R.d R.w).1),.v .nilIface])
  d2:FnC prog 198 [aa5 ts,nA (sX (rqY (dE ts q) (dE ts R.w.1) (dE ts R.w.2) (dE ts R.h))),nA R.d] (.tup [nA (sX (rqV ts q R.h R.d R.w).2),.v .nilIface])
  e1:sX (dE ts R.a.1) = R.a.1
  e2:sX (dE ts R.a.2) = R.a.2
  b:BdP ts R.v (rqV ts q R.h R.d R.w) R.p (dE ts R.a.1,dE ts R.a.2)
theorem RqP.body {R:Rp} {q:List Rat} (H:RqP ts R q) :
  Con prog 78 [.ptr 1000 0,qP R.v,lpA (rqV ts q R.h R.d R.w).l,qP R.p,ptA R.a.1 R.a.2] [(1000,some (mdA ts))] (rqQ ts R q).av [(1000,some (mdA ts))]:=by
 have hb:=aq0 H.sm H.sp H.b
 have e:lpA (P2.l ((dE ts R.a.1, dE ts R.a.2):P2 ts)) = ptA R.a.1 R.a.2:=by
  show ptA (sX (dE ts R.a.1)) (sX (dE ts R.a.2)) = _;rw [H.e1,H.e2]
 rw [e] at hb;exact hb
theorem bfp {R:Rp} {q:List Rat} {j:Nat} (cy:Cy ts 700000000 1000000000) (sm:Sm 3000 R.v) (sp:Sm 3000 R.p) (h0:aht R.v R.v ≠ 0) (nq:Nm ts.length 700000000 q) (nh:Nm ts.length 700000000 R.h) (nd:Nm ts.length 700000000 R.d)
  (n1:Nm ts.length 700000000 R.w.1) (n2:Nm ts.length 700000000 R.w.2) (a1:Nm ts.length 700000000 R.a.1) (a2:Nm ts.length 700000000 R.a.2) (e1:sX (dE ts R.a.1) = R.a.1) (e2:sX (dE ts R.a.2) = R.a.2)
  (nj:Nl j R.d) (hj:j <= ts.length) (hj1:j <= 1) (hd:sgE (dE ts R.d) ≠ 0):RqP ts R q:=by
 obtain ⟨r,tw,hk⟩:=cy.ex;have hl:=cy.lm;haveI:=cy;haveI zq:Zl ts 700000000 1000000000 q (dE ts q) 1 0:=Zl.at nq (le_refl _);haveI zh:Zl ts 700000000 1000000000 R.h (dE ts R.h) 1 0:=Zl.at nh (le_refl _);haveI zd:Zl ts 700000000 1000000000 R.d (dE ts R.d) 1 0:=Zl.at nd (le_refl _);haveI z1:Zl ts 700000000 1000000000 R.w.1 (dE ts R.w.1) 1 0:=Zl.at n1 (le_refl _);haveI z2:Zl ts 700000000 1000000000 R.w.2 (dE ts R.w.2) 1 0:=Zl.at n2 (le_refl _);haveI:=zq.zu; haveI:=zh.zu; haveI:=z1.zu; haveI:=z2.zu
 haveI zn:Zu 700000000 1000000000 (-dE ts R.w.2) 1 0:=inferInstance;haveI y1:Zu 700000000 1000000000 (dE ts q * dE ts R.w.1) 2 1:=inferInstance;haveI y2:Zu 700000000 1000000000 (dE ts q * dE ts R.w.2) 2 1:=inferInstance;haveI y3:Zu 700000000 1000000000 (dE ts R.h * -dE ts R.w.2) 2 1:=inferInstance;haveI y4:Zu 700000000 1000000000 (dE ts R.h * dE ts R.w.1) 2 1:=inferInstance;haveI x1:Zu 700000000 1000000000 (rqX (dE ts q) (dE ts R.w.1) (dE ts R.w.2) (dE ts R.h)) 4 3:=(inferInstance:Zu 700000000 1000000000 (dE ts q * dE ts R.w.1 - dE ts R.h * -dE ts R.w.2) 4 3)
 haveI x2:Zu 700000000 1000000000 (rqY (dE ts q) (dE ts R.w.1) (dE ts R.w.2) (dE ts R.h)) 4 3:=(inferInstance:Zu 700000000 1000000000 (dE ts q * dE ts R.w.2 - dE ts R.h * dE ts R.w.1) 4 3)
 have ew:∀ x:Et ts,dec ts.length (sX x) = x:=fun x=>aa4 _ _
 have hkB:kB r ts.length <= 1000000000:=hk;have c1:=amn tw nq n1 n2 (by rw [hl]; omega);have ng:=bn0 (ts:=ts) (u:=700000000) (k:=1000000000) (a:=R.w.2) (by decide);have nn:Nm ts.length 700000000 (sX (-dE ts R.w.2)):=zn.nm.mono (by decide);have c2:=amn tw nh nn n1 (by rw [hl]; omega);rw [ew] at c2;have sb:=aq2 (a:=sX (dE ts q * dE ts R.w.1)) (b:=sX (dE ts q * dE ts R.w.2)) (c:=sX (dE ts R.h * -dE ts R.w.2)) (d:=sX (dE ts R.h * dE ts R.w.1)) tw y1.nm y2.nm y3.nm y4.nm (by rw [hl]; decide);rw [ew,ew,ew,ew] at sb;have d1:=aqp (ts:=ts) (u:=700000000) (k:=1000000000) (a:=sX (rqX (dE ts q) (dE ts R.w.1) (dE ts R.w.2) (dE ts R.h))) (b:=R.d) nj hj hj1 hd (by decide);have d2:=aqp (ts:=ts) (u:=700000000) (k:=1000000000) (a:=sX (rqY (dE ts q) (dE ts R.w.1) (dE ts R.w.2) (dE ts R.h))) (b:=R.d) nj hj hj1 hd (by decide);exact ⟨sm,sp,c1,ng,c2,sb,d1.1,d2.1,e1,e2,a6j tw cy.two hkB sm sp h0 (d1.2.nm.mono (by decide)) (d2.2.nm.mono (by decide)) (by show Nm ts.length 700000000 (sX (dE ts R.a.1)); rw [e1]; exact a1) (by show Nm ts.length 700000000 (sX (dE ts R.a.2)); rw [e2]; exact a2)⟩
end
def rqS (ts:LL) (R:Rp) (qs:LL) (i:Nat):Sv:=⟨ts,[rqQ ts R (qs.getD i [])],if qs.length = 1 then 0 else 1 - 2 * (i:Int)⟩
def rqL (ts:LL) (R:Rp) (qs:LL) (n:Nat):List AV:=(List.range n).map fun i=>(rqS ts R qs i).av
theorem aou (ts:LL) (R:Rp) (qs:LL) (n:Nat):(rqL ts R qs n).length = n:=by simp [rqL]
theorem a35 (ts:LL) (R:Rp) (qs:LL) (n:Nat):rqL ts R qs (n + 1) = rqL ts R qs n ++ [(rqS ts R qs n).av]:=by unfold rqL; rw [List.range_succ]; simp
def rpP (l:Li) (a:As) (i:Int) (j0 j:Jt):Rp:=⟨rpV l i j,aak l j0 i,P2.l (aa1 l a j0 i),sh 0 (rpH l i j0 j:Rat),sX (rpD l a i j0 j),P2.l (rpW l a i j0 j)⟩
def rpX (l:Li) (a:As) (i:Int) (j0 j:Jt):Et (llq a.rs):=qE (rpN l i j) * rpD l a i j0 j - qE (rpH l i j0 j) * qE (rpH l i j0 j)
def rpR (l:Li) (a:As) (i:Int) (j0 j:Jt):List AV × Nat :=
  if sgE (rpD l a i j0 j) = 0 /\ sgE (qE (rpH l i j0 j):Et (llq a.rs)) = 0 then ([],15)
  else if sgE (rpX l a i j0 j) < 0 then ([],0)
  else if 0 < sgE (rpX l a i j0 j) then (rqL (ab2 (llq a.rs) (sX (rpX l a i j0 j))) (rpP l a i j0 j) [adb (llq a.rs).length,sX (-lnR (rpX l a i j0 j))] 2,0)
  else (rqL (llq a.rs) (rpP l a i j0 j) [[]] 1,0)
theorem bi7 {ts:LL} {r:Nat} (tw:Tw ts r) {n d h:Et ts} (hs:¬ sgE (n * d - h * h) < 0) (h1:¬ (sgE d = 0 /\ sgE h = 0)):sgE d ≠ 0:=by
 intro h0;have S:=aps (aae ts) ts.length tw.pos
 have e1:sg (aae ts) ts.length (n * d) = 0:=by
  rw [S.mul];have:sg (aae ts) ts.length d = 0:=h0;rw [this]; exact Int.mul_zero _
 have e2:=S.zadd (y:=-(h * h)) e1;rw [show n * d + -(h * h) = n * d - h * h by grind,S.neg,S.mul] at e2;have e3:sgE (n * d - h * h) = sg (aae ts) ts.length (n * d - h * h):=rfl;have e4:sgE h = sg (aae ts) ts.length h:=rfl;have h2:sg (aae ts) ts.length h ≠ 0:=fun h9=>h1 ⟨h0,by rw [e4]; exact h9⟩
 rw [e3,e2] at hs;rcases S.cs h with g | g | g
 ·rw [g] at hs; exact hs (by decide)
 ·exact h2 g
 ·rw [g] at hs; exact hs (by decide)
theorem blx {p q:Rat} (h:p * p + q * q = 0):p = 0 /\ q = 0:=by
 have h1:=a3g p;have h2:=a3g q;have h3:p * p = 0:=by grind
 have h4:q * q = 0:=by grind
 exact ⟨by rcases Rat.mul_eq_zero.1 h3 with g | g <;> exact g,by rcases Rat.mul_eq_zero.1 h4 with g | g <;> exact g⟩
theorem bqp {l:Li} (hli:liE l = 0) {n:Nat} {j:Jt} (hj:l.joints[n]? = some j) (hk:j.kind ≠ 0) {i:Int} (hi:j.b = i):aht (rpV l i j) (rpV l i j) ≠ 0:=by
 intro h0;obtain ⟨h1,h2⟩:=blx h0;have h3:=bm4 hli hj;subst hi;have e1:(mkQ l j.b j.to).1 - (mkQ l j.b j.on).1 = 0:=h1;have e2:(mkQ l j.b j.to).2 - (mkQ l j.b j.on).2 = 0:=h2;have e3:((aen l j.b).getD j.on.toNat default).x.q = ((aen l j.b).getD j.to.toNat default).x.q:=by unfold mkQ at e1; dsimp only at e1; grind
 have e4:((aen l j.b).getD j.on.toNat default).y.q = ((aen l j.b).getD j.to.toNat default).y.q:=by unfold mkQ at e2; dsimp only at e2; grind
 unfold jt0 at h3;split at h3
 ·cases h3
 ·split at h3
  ·cases h3
  ·split at h3
   ·cases h3
   ·split at h3
    ·cases h3
    ·split at h3
     ·cases h3
     ·first | (rw [if_pos ⟨e3,e4⟩] at h3; cases h3) | (split at h3 <;> first | (cases h3; done) | (rename_i g; exact absurd ⟨e3,e4⟩ g))
theorem a27:Sub (.lst 1 [.v (.slice none 0 0)]) (.lst 1 [nA []]):=by
 refine Sub.lst rfl (fun i x y hx hy=>?_)
 match i,hx,hy with
 | 0, hx, hy =>
  cases hx; cases hy
  refine ⟨rfl,fun j x y hx hy=>?_⟩
  match j,hx,hy with
  | 0,hx,hy=>cases hx; cases hy; exact ⟨rfl,.nil _ _ _⟩
theorem bql {x y:Int} (h:cond (aaa .eql x 0) (aaa .eql y 0) false = true):x = 0 /\ y = 0:=by
 cases h1:aaa .eql x 0
 ·rw [h1] at h; cases h
 ·rw [h1] at h; exact ⟨aco h1,aco h⟩
theorem bq9 {x y:Int} (h:cond (aaa .eql x 0) (aaa .eql y 0) false = false):¬ (x = 0 /\ y = 0):=by
 rintro ⟨rfl,rfl⟩;cases h
structure RpF (l:Li) (a:As) (i:Int) (j0 j:Jt):Prop where
  hv:Sm 3000 (rpV l i j)
  hp:Sm 3000 (aak l j0 i)
  vv:aht (rpV l i j) (rpV l i j) ≠ 0
  zl:Zl (llq a.rs) 4000 300000 (sh 0 (rpH l i j0 j:Rat)) (qE (rpH l i j0 j)) 3 0
  z3:Zu 4000 300000 (rpD l a i j0 j) 320 327
  zX:Zu 4000 300000 (rpX l a i j0 j) 976 989
  w1:Zu 4000 300000 (rpW l a i j0 j).1 80 81
  w2:Zu 4000 300000 (rpW l a i j0 j).2 80 81
  y1:Zu 4000 300000 (aa1 l a j0 i).1 40 40
  y2:Zu 4000 300000 (aa1 l a j0 i).2 40 40
theorem a7g {l:Li} {a:As} (D:DyR l a) (hn:(llq a.rs).length <= 1) {g:Gr} {i z0 z1:Int} {j0 j:Jt} (P:SlP l a g 3 i z0 z1 j0 j) (hj:j.b = i) (hb:Pd a j.a):RpF l a i j0 j:=by
 haveI c:=D.al.ct D.hc;have ck:=c.k1;haveI cy:Cy (llq a.rs) 4000 300000:=⟨c.ex,c.k1,c.u3,by omega⟩
 have hs0:Sm 1000 (aak l j0 i):=ach D.hl D.li P.h0 P.p0.or;obtain ⟨i1,i2,i3,i4,i5⟩:=afv D.li P.h1;have hs1:Sm 1000 (mkQ l i j.on):=by rw [<- hj]; exact ajg D.hl D.li i2 i4
 have hs2:Sm 1000 (mkQ l i j.to):=by rw [<- hj]; exact ajg D.hl D.li i2 (i5 P.hk)
 have hv:Sm _ (rpV l i j):=hs2.sub hs1;haveI qn:Qz 4000 (rpN l i j) 3:=aqn (hv.dot hv) oz;haveI qh:Qz 4000 (rpH l i j0 j) 3:=aqn (hv.cross (hs1.sub hs0)) oz;obtain ⟨w1,w2⟩:=a6p D P.h0 P.p0 P.h1 hb;obtain ⟨y1,y2⟩:=aek D.hl D.li D.al D.hc P.h0 P.p0;haveI:=w1; haveI:=w2
 haveI z3:Zu 4000 300000 (rpD l a i j0 j) 320 327:=(inferInstance:Zu 4000 300000 (dotE (rpW l a i j0 j).1 (rpW l a i j0 j).2 (rpW l a i j0 j).1 (rpW l a i j0 j).2) _ _)
 exact ⟨hv.mono oz,hs0.mono oz,bqp D.li P.h1 P.hk hj,Cy.zq,z3,bjv (inferInstance:Zu 4000 300000 (qE (rpN l i j) * rpD l a i j0 j - qE (rpH l i j0 j) * qE (rpH l i j0 j)) _ _) (by decide) (by decide),w1,w2,y1,y2⟩
theorem a6o {l:Li} {a:As} {i:Int} {j0 j:Jt} (F:RpF l a i j0 j) (tw:Tw (llq a.rs) 40000) (hn:(llq a.rs).length <= 1) (hd0:sgE (rpD l a i j0 j) ≠ 0) (hp:0 <= sgE (rpX l a i j0 j)) :
  ExtP (rpX l a i j0 j) /\ RqP (ab2 (llq a.rs) (sX (rpX l a i j0 j))) (rpP l a i j0 j) (adb (llq a.rs).length) /\ RqP (ab2 (llq a.rs) (sX (rpX l a i j0 j))) (rpP l a i j0 j) (sX (-lnR (rpX l a i j0 j))) /\
  FnC prog 73 [aa5 (ab2 (llq a.rs) (sX (rpX l a i j0 j))),nA (adb (llq a.rs).length)] (.tup [nA (sX (-lnR (rpX l a i j0 j))),.v .nilIface]):=by
 have E:ExtP (rpX l a i j0 j):=ame tw hn F.zX hp;have ce:=E.cy;have zr:Nm (ab2 (llq a.rs) (sX (rpX l a i j0 j))).length 700000000 (adb (llq a.rs).length):=(aov oz).mono (by decide);haveI zrl:Zl (ab2 (llq a.rs) (sX (rpX l a i j0 j))) 700000000 1000000000 (adb (llq a.rs).length) (lnR (rpX l a i j0 j)) 1 0:=Zl.at zr (by decide);haveI:=zrl.zu;have hng:=bn0 (ts:=ab2 (llq a.rs) (sX (rpX l a i j0 j))) (u:=700000000) (k:=1000000000) (a:=adb (llq a.rs).length) (by decide);have zn:Nm (ab2 (llq a.rs) (sX (rpX l a i j0 j))).length 700000000 (sX (-lnR (rpX l a i j0 j))):=(inferInstance:Zu 700000000 1000000000 (-lnR (rpX l a i j0 j)) 1 0).nm.mono (by decide)
 have hR:∀ q, Nm (ab2 (llq a.rs) (sX (rpX l a i j0 j))).length 700000000 q -> RqP (ab2 (llq a.rs) (sX (rpX l a i j0 j))) (rpP l a i j0 j) q:=fun q nq =>
  bfp (R := rpP l a i j0 j) (j := (llq a.rs).length) ce F.hv F.hp F.vv nq (afs (F.zl.nm.mono (by decide)) oz) (afs (F.z3.nm.mono (by decide)) oz) (afs (F.w1.nm.mono (by decide)) oz) (afs (F.w2.nm.mono (by decide)) oz)
   (afs (F.y1.nm.mono (by decide)) oz) (afs (F.y2.nm.mono (by decide)) oz) (asj hn _ _ F.y1.nm).2 (asj hn _ _ F.y2.nm).2 F.z3.nm.nl (by rw [acv]; omega) hn (by rw [show sgE (dE (ab2 (llq a.rs) (sX (rpX l a i j0 j))) (rpP l a i j0 j).d) = sgE (rpD l a i j0 j) from bcj]; exact hd0)
 exact ⟨E,hR _ zr,hR _ zn,hng⟩
theorem a20 {l:Li} {a:As} {i:Int} {j0 j:Jt} (F:RpF l a i j0 j) (tw:Tw (llq a.rs) 40000) (hn:(llq a.rs).length <= 1) (hd0:sgE (rpD l a i j0 j) ≠ 0):Cy (llq a.rs) 700000000 1000000000 /\ RqP (llq a.rs) (rpP l a i j0 j) []:=by
 have cs:Cy (llq a.rs) 700000000 1000000000:=⟨⟨40000,tw,by show kB 40000 (llq a.rs).length <= _; have:=kb4 tw.three; omega⟩,by omega,by omega,by omega⟩
 have nil0:Nm (llq a.rs).length 700000000 []:=⟨tw.five,.inl rfl,Cb.nil.mono oz⟩
 exact ⟨cs, bfp (R := rpP l a i j0 j) (j := (llq a.rs).length) cs F.hv F.hp F.vv nil0 (F.zl.nm.mono (by decide)) (F.z3.nm.mono (by decide)) (F.w1.nm.mono (by decide)) (F.w2.nm.mono (by decide))
   (F.y1.nm.mono (by decide)) (F.y2.nm.mono (by decide)) (ast _ _ F.y1.nm).2 (ast _ _ F.y2.nm).2 F.z3.nm.nl (le_refl _) hn (by rw [show sgE (dE (llq a.rs) (rpP l a i j0 j).d) = sgE (rpD l a i j0 j) from congrArg sgE (aa4 _ _)]; exact hd0)⟩
theorem axt {l:Li} {a:As} (D:DyR l a) (hn:(llq a.rs).length <= 1) {i z0 z1:Int} {j0 j:Jt} (hg:GrOk l ⟨3, [i], [z0, z1], 0⟩) (P:SlP l a ⟨3, [i], [z0, z1], 0⟩ 3 i z0 z1 j0 j) (hj:j.b = i) (hb:Pd a j.a) :
  Con prog 27 [.ptr 1000 0] [(1000,some (svB l ⟨3,[i],[z0,z1],0⟩ a))] (rsA (rpR l a i j0 j)) [(1000,some (svB l ⟨3,[i],[z0,z1],0⟩ a))]:=by
 haveI c:=D.al.ct D.hc;obtain ⟨tw,etw⟩:=abr D.al.tr D.hc;haveI cy:Cy (llq a.rs) 4000 300000:=⟨c.ex,c.k1,c.u3,by omega⟩
 have hlm:=cy.lm;have F:=a7g D hn P hj hb;obtain ⟨i1,i2,i3,i4,i5⟩:=afv D.li P.h1;have hs0:Sm 1000 (aak l j0 i):=ach D.hl D.li P.h0 P.p0.or;have hs1:Sm 1000 (mkQ l i j.on):=by rw [<- hj]; exact ajg D.hl D.li i2 i4
 have hs2:Sm 1000 (mkQ l i j.to):=by rw [<- hj]; exact ajg D.hl D.li i2 (i5 P.hk)
 have hv:Sm _ (rpV l i j):=hs2.sub hs1;haveI qn:Qz 4000 (rpN l i j) 3:=aqn (hv.dot hv) oz;haveI qh:Qz 4000 (rpH l i j0 j) 3:=aqn (hv.cross (hs1.sub hs0)) oz;haveI z3:=F.z3;haveI zX:=F.zX;haveI zl:=F.zl;have hrr:=amo D (i:=i) (j0:=j0) (j:=j) (by decide);have m1:=avx (ts:=llq a.rs) (u:=4000) (k:=300000) (a:=sX (rpX l a i j0 j)) (by decide);have m2:=avx (ts:=llq a.rs) (u:=4000) (k:=300000) (a:=sX (rpD l a i j0 j)) (by decide);have m3:=avx (ts:=llq a.rs) (u:=4000) (k:=300000) (a:=sh 0 (rpH l i j0 j:Rat)) (by decide);refine gF func27 (fun k z h=>aa3 h) ?_ (2,0);refine gW (Wk.o (sl:=[(0,some (.ptr 1000 0)),(4,some (.ptr 24 0))]) (hp:=[(1000,some (svB l ⟨3,[i],[z0,z1],0⟩ a)),(24,some (mdB a.rs))])) ?_;refine gt (aab (Con.rekeyBB 1000 24 (by decide) (by decide) rfl rfl rfl rfl rfl rfl (ba8 D hg P.h0 P.h1 P.p0 hj P.hk hb)) (ev2 rfl rfl) hHa rfl rfl) ?_;refine gt (aab (Con.rekeyB1 24 rfl rfl rfl rfl rfl hrr) (ev2 rfl rfl) hHa rfl rfl) ?_ (4,0);refine gW (Wk.of (sl:=[(4,some (.ptr 24 0)),(5,some (.ptr 5 0)),(6,some (nA (sX (rpX l a i j0 j))))]) (hp:=[(1000,some (svB l ⟨3,[i],[z0,z1],0⟩ a)),(5,some (.box (rpC l a i j0 j))),(24,some (mdA (llq a.rs)))]) aa6 (.k (.k (.cons rfl (BlkSub.boxL (.cons (.of (aff etw)) (.cons (.refl _) .nil)) rfl) .nil)))) ?_;refine gt (aaf (Con.rekeyB 24 rfl rfl rfl rfl m1) (ev2 rfl rfl) rfl rfl rfl) ?_;refine gC (fun ht34=>?_) (fun ht34=>?_) (st1:=(6,0))
 ·cases ht34
 ·refine gt (aaf (Con.rekeyB 24 rfl rfl rfl rfl m2) (ev2 rfl rfl) rfl rfl rfl) ?_;refine gu (acj rfl rfl rfl (fun h=>aaf (Con.rekeyB 24 rfl rfl rfl rfl m3) (.cons (.opt rfl (o1 h)) (.cons (.opt rfl (o1 h)) .nil)) rfl rfl rfl)) ?_;refine gC (fun ht44=>?_) (fun ht44=>?_)
  ·have h1:=bql ht44;refine gR ?_;exact (Fin.keep (abt rfl)).sub (by unfold rpR; rw [if_pos h1]; exact Sub.tup (.cons (.nil _ _ _) (.cons (.refl _) .nil)))
  ·have h1:=bq9 ht44;refine gC (fun ht58=>?_) (fun ht58=>?_)
   ·have h2:sgE (rpX l a i j0 j) < 0:=of_decide_eq_true ht58;refine gR ?_;exact (Fin.keep (abt rfl)).sub (by unfold rpR; rw [if_neg h1,if_pos h2]; exact Sub.tup (.cons (.nil _ _ _) (.cons (.refl _) .nil)))
   ·have h2:¬ sgE (rpX l a i j0 j) < 0:=of_decide_eq_false ht58;have hd0:sgE (rpD l a i j0 j) ≠ 0:=bi7 tw h2 h1;refine gJ2 [4,5] [1000,5] (fun (T:LL) (qs:LL)=>[(8,some (.lst 1 (qs.map nA)))]) (fun T _=>[(24,some (mdA T))]) (fun T qs=>Cy T 700000000 1000000000 /\ qs.length <= 2 /\ (∀ q ∈ qs,RqP T (rpP l a i j0 j) q) /\ rpR l a i j0 j = (rqL T (rpP l a i j0 j) qs qs.length,0)) ?_ ?_
    ·intro K1 hK1;refine gC (fun ht63=>?_) (fun ht63=>?_)
     ·have h3:0 < sgE (rpX l a i j0 j):=of_decide_eq_true ht63;obtain ⟨E,R1,R2,hng⟩:=a6o F tw hn hd0 oz;have ce:=E.cy;have hex:=ayz (a:=sX (rpX l a i j0 j)) tw zX.nm (by rw [hlm]; decide) (by rw [show dec (llq a.rs).length (sX (rpX l a i j0 j)) = rpX l a i j0 j from aa4 _ _]; show 0 <= sgE (rpX l a i j0 j); omega);refine gc hex ?_;refine gC (fun ht75=>?_) (fun ht75=>?_) (st1:=(15,0))
      ·cases ht75
      ·refine gc hng ?_;refine gt (aaf (Con.rekeyB 24 rfl rfl rfl rfl (ak7 _ _)) (ev3 rfl rfl rfl) rfl rfl rfl) ?_;exact jK2 hK1 (ab2 (llq a.rs) (sX (rpX l a i j0 j))) ([adb (llq a.rs).length,sX (-lnR (rpX l a i j0 j))]) ⟨ce,le_refl 2,bfn R1 R2,by unfold rpR; rw [if_neg h1,if_neg h2,if_pos h3]; rfl⟩
     ·have h3:¬ 0 < sgE (rpX l a i j0 j):=of_decide_eq_false ht63;obtain ⟨cs,R0⟩:=a20 F tw hn hd0;exact jK2 hK1 (llq a.rs) ([[]]) ⟨cs,by decide,a9k R0,by unfold rpR; rw [if_neg h1,if_neg h2,if_neg h3]; rfl⟩ (hw:=Wk.of (.cons rfl a27 (.k (.k .nil))) (.k (.k (.k .nil))))
    ·rintro T qs ⟨ct, hql, hq, hR⟩;obtain ⟨rr,twT,hkT⟩:=ct.ex;refine gl ?_;refine gW (Wk.virt 900 3 rfl) ?_;refine gL1 [4,5,8,90,91] [1000,5,24] (fun (q:Nat)=>[(12,some (.ms 900 3 0 q)),(92,some (i64 q))]) (fun q=>[(900,some (.row 3 (rqL T (rpP l a i j0 j) qs q)))]) (fun q=>q <= qs.length) (fun q=>qs.length - q) 0 (zero_le _) ?_;rintro q hqi K2 hK2;refine gC (fun ht93=>?_) (fun ht93=>?_) (st2:=(28,0))
     ·have hin:=aa9 ht93;obtain ⟨x,hx⟩:=ab5 hin;have hx9:qs.getD q [] = x:=aah hx;have R:=hq x (mem_of_getElem? hx);refine gi (aag hx) ?_;refine gc R.c1 ?_;refine gt (aaf (Con.rekeyB 24 rfl rfl rfl rfl (am1 _ _ _)) (ev3 rfl rfl rfl) rfl rfl rfl) ?_;refine gD ?_;refine gc R.ng ?_;refine gt (aaf (Con.rekeyB 24 rfl rfl rfl rfl (ak7 _ _)) (ev3 rfl rfl rfl) rfl rfl rfl) ?_;refine gc R.c2 ?_;refine gt (aaf (Con.rekeyB 24 rfl rfl rfl rfl (am1 _ _ _)) (ev3 rfl rfl rfl) rfl rfl rfl) ?_;refine gD ?_;refine gc R.sb ?_;refine gt (aaf (Con.rekeyB 24 rfl rfl rfl rfl (am1 _ _ _)) (ev3 rfl rfl rfl) rfl rfl rfl) ?_;refine gD ?_;refine gt (aaf (Con.rekeyB 24 rfl rfl rfl rfl (avk R.d1)) (ev3 rfl rfl rfl) rfl rfl rfl) ?_;refine gt (aaf (Con.rekeyB 24 rfl rfl rfl rfl (avk R.d2)) (ev3 rfl rfl rfl) rfl rfl rfl) ?_;refine gD ?_;refine gc (aoo twT) ?_;refine gt (aaf (Con.rekeyB 24 rfl rfl rfl rfl R.body) (.cons (.tmp rfl) (.cons (.tmp rfl) (ev3 rfl rfl rfl))) rfl rfl rfl) ?_;refine gl ?_;refine gc (ayk q qs.length oz) ?_;refine gs (aa0 (.tmp rfl) rfl (aou _ _ _ _).symm (.tmp rfl) T47 rfl T62 rfl rfl (by dsimp only; simp only [length_cons,length_nil]; omega) rfl rfl) ?_;refine gD ?_ (27,0);refine gW (Wk.of (sl:=[(4,some (.ptr 24 0)),(5,some (.ptr 5 0)),(8,some (.lst 1 (qs.map nA))),(12,some (.ms 182 3 0 (q + 1))),(90,some (.lst 1 (qs.map nA))),(91,some (i64 qs.length)),(92,some (i64 q))]) (hp:=[(1000,some (svB l ⟨3,[i],[z0,z1],0⟩ a)),(5,some (.box (rpC l a i j0 j))),(24,some (mdA T)),(182,some (.row 3 (rqL T (rpP l a i j0 j) qs (q + 1))))]) aa6 (.k (.k (.k (.cons rfl (BlkSub.of (by rw [a35]; unfold rqS; rw [hx9]; rfl)) .nil))))) ?_ (27,0)
      refine gW (Wk.rekey (k:=182) (d:=900) rfl rfl) ?_;refine ga aat ?_;exact gK1 hK2 (q + 1) hin
     ·have hin:=aan hqi ht93;subst hin;refine gW ((Wk.freeze (k:=900) rfl).trans <| Wk.of (sl:=[(4,some (.ptr 24 0)),(12,some (.lst 3 (rqL T (rpP l a i j0 j) qs qs.length)))]) (hp:=[(1000,some (svB l ⟨3,[i],[z0,z1],0⟩ a)),(24,some (mdA T))]) (.k (.cons rfl (Sub.of (by rw [abq (aou _ _ _ _).symm])) .nil)) (.k (.k .nil))) ?_;refine gC (fun ht188=>?_) (fun ht188=>?_) (st1:=(29,0))
      ·cases ht188
      ·refine gR ?_;exact (Fin.keep (abt rfl)).sub (Sub.of (by rw [hR]; rfl))
end Go.Lw
namespace Go.Lw
open Go.Proofs
theorem bin:Sub (.agg [bl (rt ((1:Int):Rat)).neg, ws (rt ((1:Int):Rat)).num, ws (rt ((1:Int):Rat)).den, .v (.bool false), .v (.slice none 0 0), .v (.slice none 0 0)]) (qP (((1:Int):Rat), 0)) :=
 Sub.agg (.cons (.refl _) (.cons (.refl _) (.cons (.refl _) (.cons (.refl _) (.cons (Sub.nil _ _ _) (.cons (Sub.nil _ _ _) .nil)))))) rfl
theorem atb {ts:LL} (q:Rat):sX (qE q:Et ts) = sh 0 (q:Rat):=a22 _ _
def bpa (l:Li) (a:As) (i:Int) (j0:Jt) (x:Tn):Pq:=bdQ (((1:Int):Rat),0) ((qE (au6 x.half x.t.q),qE (auz x.half x.t.q)):P2 (llq a.rs)) (aak l j0 i) (aa1 l a j0 i)
def a1m (l:Li) (a:As) (i:Int) (j0:Jt) (x:Tn):List AV × Nat:=if x.err ≠ 0 then ([],x.err) else ([(⟨llq a.rs,[bpa l a i j0 x],1⟩:Sv).av],0)
theorem a5q {l:Li} {g:Gr} {a:As} {x:Tn} (hx:x.t.ok) (hq:Qb 1000 x.t.q) (he:x.err ≠ 0) :
  Con prog 24 [.ptr 1000 0,x.av] [(1000,some (svB l g a))] (.tup [.lst 3 [],ai2 x.err]) [(1000,some (svB l g a))]:=by
 refine gF func24 (fun k z h=>aa3 h) ?_;refine gc (atn x hx hq oz) ?_;refine gC (fun ht20=>?_) (fun ht20=>?_) (st2:=(77777,0))
 ·refine gR ?_;exact (Fin.keep (abt rfl)).sub (Sub.tup (.cons (.nil _ _ _) (.cons (.refl _) .nil)))
 ·exact absurd (ad1 ht20) he
theorem a8n:Sm 3000 (((1:Int):Rat),(0:Rat)):=⟨Qb.one.mono oz,Qb.mono (e:=1) (q:=0) ⟨by decide,by decide⟩ oz⟩
theorem bgw {l:Li} {a:As} (D:DyR l a) (hn:(llq a.rs).length <= 1) {n:Nat} {i:Int} {j0:Jt} (h0:l.joints[n]? = some j0) (p0:PinP l a j0 i) {x:Tn} (hq:Qb 1000 x.t.q) :
  BdP (llq a.rs) (((1:Int):Rat),(0:Rat)) ((qE (au6 x.half x.t.q),qE (auz x.half x.t.q)):P2 (llq a.rs)) (aak l j0 i) (aa1 l a j0 i):=by
 obtain ⟨tw,etw⟩:=abr D.al.tr D.hc;have qc:=a80 (half:=x.half) hq;have qs:=bab (half:=x.half) hq;have hs0:Sm 1000 (aak l j0 i):=ach D.hl D.li h0 p0.or;obtain ⟨y1,y2⟩:=aek D.hl D.li D.al D.hc h0 p0;have hkb:kB 40000 (llq a.rs).length <= 1000000000:=by have:=kb4 tw.three; omega
 exact a6j (u := (((1 : Int) : Rat), (0 : Rat))) (p := aak l j0 i) (w := ((qE (au6 x.half x.t.q), qE (auz x.half x.t.q)) : P2 (llq a.rs))) (o := aa1 l a j0 i) tw oz hkb a8n (hs0.mono oz) (by decide +kernel)
  (by show Nm _ _ (sX (qE (au6 x.half x.t.q):Et (llq a.rs))); rw [atb]; exact (aj1 tw.five qc).mono oz) (by show Nm _ _ (sX (qE (auz x.half x.t.q):Et (llq a.rs))); rw [atb]; exact (aj1 tw.five qs).mono oz) (y1.nm.mono (by decide)) (y2.nm.mono (by decide))
theorem bbo {l:Li} {a:As} (D:DyR l a) (hn:(llq a.rs).length <= 1) {i z0 d:Int} {j0:Jt} (hg:GrOk l ⟨0, [i], [z0], d⟩) (h0:l.joints[z0.toNat]? = some j0) (p0:PinP l a j0 i) {x:Tn} (hx:x.t.ok) (hq:Qb 1000 x.t.q) (he:x.err = 0) :
  Con prog 24 [.ptr 1000 0,x.av] [(1000,some (svB l ⟨0,[i],[z0],d⟩ a))] (.tup [.lst 3 [(⟨llq a.rs,[bpa l a i j0 x],1⟩:Sv).av],.v .nilIface]) [(1000,some (svB l ⟨0,[i],[z0],d⟩ a))]:=by
 obtain ⟨tw,etw⟩:=abr D.al.tr D.hc;have hc:=atn x hx hq oz;rw [if_pos he,he] at hc;have hs:=a5j x hx hq oz;rw [if_pos he,he] at hs;have qc:=a80 (half:=x.half) hq;have qs:=bab (half:=x.half) hq;have hs0:Sm 1000 (aak l j0 i):=ach D.hl D.li h0 p0.or;obtain ⟨y1,y2⟩:=aek D.hl D.li D.al D.hc h0 p0;have hb:=aq0 a8n (hs0.mono oz) (bgw D hn h0 p0 hq)
 have ew:lpA (P2.l ((qE (au6 x.half x.t.q), qE (auz x.half x.t.q)):P2 (llq a.rs))) = ptA (sh 0 (au6 x.half x.t.q:Rat)) (sh 0 (auz x.half x.t.q:Rat)):=by
  show ptA (sX (qE (au6 x.half x.t.q):Et (llq a.rs))) (sX (qE (auz x.half x.t.q):Et (llq a.rs))) = _;rw [atb,atb]
 rw [ew] at hb;have hcl:=aoo tw;have hcl2:FnC prog 80 [ahu a.rs] (aa5 (llq a.rs)):=by rw [etw]; exact hcl
 refine gF func24 (fun k z h=>aa3 h) ?_;refine gc hc ?_;refine gC (fun ht20=>?_) (fun ht20=>?_) (st1:=(3,0))
 ·cases ht20
 ·refine gc hs ?_;refine gC (fun ht28=>?_) (fun ht28=>?_) (st1:=(6,0))
  ·cases ht28
  ·refine gi rfl ?_;refine gt (aaf (am9 D.hl D.li _ hg D.al D.hc (k:=0) rfl h0 p0) (.cons (.tmp rfl) (.cons (.const _) (ev1 rfl))) rfl rfl rfl) ?_;refine gD ?_ (9,0);refine gW (Wk.of (sl:=[(0,some (.ptr 1000 0)),(6,some (.ptr 6 0)),(8,some (.ptr 8 0)),(9,some (.ptr 9 0)),(10,some (.ptr 10 0)),(11,some (.ptr 52 0))]) (hp:=[(1000,some (svB l ⟨0,[i],[z0],d⟩ a)),(6,some (.box [bl (rt (au6 x.half x.t.q)).neg,ws (rt (au6 x.half x.t.q)).num,ws (rt (au6 x.half x.t.q)).den])),(8,some (.box [bl (rt (auz x.half x.t.q)).neg,ws (rt (auz x.half x.t.q)).num,ws (rt (auz x.half x.t.q)).den])),(9,some (.box (qC (aak l j0 i)))),(10,some (.box [nA (sX (aa1 l a j0 i).1),nA (sX (aa1 l a j0 i).2)])),(52,some (mdA (llq a.rs)))]) aa6 (.k (.k (.k (.k (.k (.cons rfl (BlkSub.boxL (.cons (.of (aff etw)) (.cons (.refl _) .nil)) rfl) .nil))))))) ?_
   refine gc (ac1 1 oz) ?_;refine gc (ak2 (qc.qs oz) (qs.qs oz)) ?_;refine gt (aaf (Con.rekeyB 52 rfl rfl rfl rfl (Con.subA (.cons (.refl _) (.cons bin (.cons (.refl _) (.cons (.refl _) (.cons (.refl _) .nil))))) hb)) (.cons (.tmp rfl) (.cons (.tmp rfl) (ev3 rfl rfl rfl))) rfl rfl rfl) ?_;refine gD ?_;refine gC (fun ht67=>?_) (fun ht67=>?_) (st1:=(12,0))
   ·cases ht67
   ·refine gc hcl2 ?_;refine gD ?_;refine gR ?_;exact Fin.keep (abt rfl)
theorem az6 {l:Li} {a:As} (D:DyR l a) (hn:(llq a.rs).length <= 1) {i z0 d:Int} {j0:Jt} (hg:GrOk l ⟨0, [i], [z0], d⟩) (h0:l.joints[z0.toNat]? = some j0) (p0:PinP l a j0 i) {x:Tn} (hx:x.t.ok) (hq:Qb 1000 x.t.q) :
  Con prog 24 [.ptr 1000 0,x.av] [(1000,some (svB l ⟨0,[i],[z0],d⟩ a))] (rsA (a1m l a i j0 x)) [(1000,some (svB l ⟨0,[i],[z0],d⟩ a))]:=by
 by_cases he:x.err = 0
 ·have h:=bbo D hn hg h0 p0 hx hq he;unfold a1m;rw [if_neg oz];exact h
 ·have h:=a5q (l:=l) (g:=⟨0, [i], [z0], d⟩) (a:=a) hx hq he;unfold a1m;rw [if_pos he];exact h
def a55 (l:Li) (a:As) (g:Gr) (x:Tn):List AV × Nat :=
  if g.kind = 0 then a1m l a (bAt g 0) (jAt l g 0) x
  else if g.kind = 1 then a5r l a (bAt g 0) (bAt g 1) (jAt l g 0) (jAt l g 1) (jAt l g 2)
  else if g.kind = 2 then prR l a (bAt g 0) (jAt l g 0) (jAt l g 1)
  else rpR l a (bAt g 0) (jAt l g 0) (jAt l g 1)
theorem auu {l:Li} {k:Int} {a:As} {own:Bool} {n:Nat} {g:Gr} (h:DyOk l k a own n g) (hk:g.kind = 0):∃ i z0 d j0, g = ⟨0, [i], [z0], d⟩ /\ l.joints[z0.toNat]? = some j0 /\ PinP l a j0 i:=by
 have hd:=h.dy;cases hd with
 | rrr _ _ _ _ _ _ _=>exact absurd hk (by simp)
 | pr _ _ _=>exact absurd hk (by simp)
 | rp _ _ _=>exact absurd hk (by simp)
 | @drv b z d j x t d0 hd hb=>exact ⟨b,z,d,j,rfl,t.hj,h.pin rfl t (by simp) (by simp)⟩
theorem axa {l:Li} {k:Int} {x:Tn} {a:As} {E:Nat} (hop:FnC prog 23 [l.av, i64 k, a.av, bl false] (.tup [.v (.pointer none), ai2 E])) (h0:E ≠ 0) :
  FnC prog 9 [l.av,i64 k,x.av,a.av] (.tup [.lst 3 [],ai2 E]):=by
 refine gF0 func9 ?_;refine gc hop ?_;refine gC (fun ht20=>?_) (fun ht20=>?_) (st2:=(77777,0))
 ·refine gR ?_;exact abc (Sub.tup (.cons (.nil _ _ _) (.cons (.refl _) .nil)))
 ·exact absurd (ad1 ht20) h0
theorem a06 {l:Li} {k:Int} {a:As} {n:Nat} {g:Gr} {x:Tn} (hx:x.t.ok) (hq:Qb 1000 x.t.q) (hn:(llq a.rs).length <= 1) (hop:Con prog 23 [l.av, i64 k, a.av, bl false] [] (.tup [.ptr 900 0, .v .nilIface]) [(900, some (svB l g a))]) (D:DyR l a) (ok:DyOk l k a false n g) :
  FnC prog 9 [l.av,i64 k,x.av,a.av] (rsA (a55 l a g x)):=by
 have hgo:=ok.ok;refine gF0 func9 ?_;refine gt (aab hop (.cons (.tmp rfl) (.cons (.tmp rfl) (.cons (.tmp rfl) (.cons (.const _) .nil)))) hHa rfl rfl) ?_ (2,0);refine gW (Wk.o (sl:=[(6,some (.ptr 6 0)),(10,some (.ptr 900 0)),(11,some (.v .nilIface))]) (hp:=[(6,some (.box x.av.cells)),(900,some (svB l g a))])) ?_;refine gC (fun ht20=>?_) (fun ht20=>?_) (st1:=(3,0))
 ·cases ht20
 ·refine gC (fun ht27=>?_) (fun ht27=>?_)
  ·have hk:g.kind = 0:=aco ht27;obtain ⟨i,z0,d,j0,e,hj0,p0⟩:=auu ok hk;have eR:a55 l a g x = a1m l a i j0 x:=by unfold a55; rw [if_pos hk,e]; show a1m l a i (l.joints.getD z0.toNat default) x = _; rw [aah hj0]
   subst e;refine gt (aaf (Con.rekeyB 900 rfl rfl rfl rfl (az6 D hn hgo hj0 p0 hx hq)) (ev2 rfl rfl) rfl rfl rfl) ?_;refine gR ?_;exact abc (Sub.of (by rw [eR]; rfl))
  ·have hk0:g.kind ≠ 0:=ac5 ht27;refine gC (fun ht34=>?_) (fun ht34=>?_)
   ·have hk:g.kind = 1:=aco ht34;obtain ⟨i,k2,z0,z1,z2,j0,j1,j2,P⟩:=ok.rrr hk;obtain ⟨e0,e1,e2,b0,b1,_⟩:=P.at;have eR:a55 l a g x = a5r l a i k2 j0 j1 j2:=by unfold a55; rw [if_neg hk0,if_pos hk,e0,e1,e2,b0,b1]
    have e:=P.eq;subst e;refine gt (aaf (Con.rekeyB 900 rfl rfl rfl rfl (av8 D hn hgo P)) (ev1 rfl) rfl rfl rfl) ?_;refine gR ?_;exact abc (Sub.of (by rw [eR]; rfl))
   ·have hk1:g.kind ≠ 1:=ac5 ht34;refine gC (fun ht40=>?_) (fun ht40=>?_)
    ·have hk:g.kind = 2:=aco ht40;obtain ⟨i,z0,z1,j0,j,P,ha,hb⟩:=ok.pr hk;obtain ⟨e0,e1,b0,_⟩:=P.at;have eR:a55 l a g x = prR l a i j0 j:=by unfold a55; rw [if_neg hk0,if_neg hk1,if_pos hk,e0,e1,b0]
     have e:=P.eq;subst e;refine gt (aaf (Con.rekeyB 900 rfl rfl rfl rfl (azt D hn hgo P ha hb)) (ev1 rfl) rfl rfl rfl) ?_;refine gR ?_;exact abc (Sub.of (by rw [eR]; rfl))
    ·have hk2:g.kind ≠ 2:=ac5 ht40;obtain ⟨i,z0,z1,j0,j,P,_,hj,hb⟩:=ok.rp hk0 hk1 hk2;obtain ⟨e0,e1,b0,_⟩:=P.at;have eR:a55 l a g x = rpR l a i j0 j:=by unfold a55; rw [if_neg hk0,if_neg hk1,if_neg hk2,e0,e1,b0]
     have e:=P.eq;subst e;refine gt (aaf (Con.rekeyB 900 rfl rfl rfl rfl (axt D hn hgo P hj hb)) (ev1 rfl) rfl rfl rfl) ?_;refine gR ?_;exact abc (Sub.of (by rw [eR]; rfl))
def a6a (l:Li) (k:Int) (x:Tn) (a:As):List AV × Nat:=if dyE l k a false = 0 then a55 l a (gAt l k) x else ([],dyE l k a false)
theorem at6 (l:Li) (hl:l.ok) (k:Int) {x:Tn} (hx:x.t.ok) (hq:Qb 1000 x.t.q) (a:As) (al:AL a) (hn:aer a.rs = 0 -> (llq a.rs).length <= 1):FnC prog 9 [l.av, i64 k, x.av, a.av] (rsA (a6a l k x a)):=by
 have hop:=ayx l hl k a al false;unfold a6a
 by_cases h0:dyE l k a false = 0
 ·obtain ⟨n, g, ok⟩:=beb h0;have hgA:gAt l k = g:=by unfold gAt; rw [ok.hk,toNat_natCast]; exact aah ok.hg
  rw [h0,hgA] at hop;rw [if_pos h0,hgA];exact a06 hx hq (hn ok.chk) hop ⟨hl,ok.li,al,ok.chk⟩ ok
 ·rw [a0v h0, az3 h0] at hop;rw [if_neg h0];exact axa hop h0
end Go.Lw
namespace Go.Lw
open Go.Proofs
structure SvOk (s:Sv):Prop where
  tw:∃ r,Tw s.ts r
  two:s.ts.length <= 2
  ps:∀ p ∈ s.ps,Pq.ok s.ts.length 80000000000 p
  ln:s.ps.length <= 2
theorem bi6 {ts:LL} {r:Nat} (h:Tw ts r) (k:Nat):Tw (ts.take k) r:=by
 have hl:(ts.take k).length <= ts.length:=by rw [length_take]; omega
 have hg:∀ j,j < (ts.take k).length -> j < k /\ j < ts.length:=fun j hj=>by rw [length_take] at hj; omega
 refine ⟨le_trans hl h.three,fun j hj=>?_,fun j hj=>?_,?_,h.le⟩
 ·obtain ⟨h1, h2⟩:=hg j hj;have h3:=h.len j h2;rw [getD_eq_getElem?_getD,getElem?_take,if_pos h1,<- getD_eq_getElem?_getD];exact h3
 ·obtain ⟨h1, h2⟩:=hg j hj;have h3:=h.pos j h2;rw [T.sgn_congr j (fun i hi=>ahb (by omega:i < k)),ahb h1];exact h3
 ·obtain ⟨D, N, h1, h2, h3⟩:=h.rb;exact ⟨D,N,h1,fun d hd=>h2 d (mem_of_mem_take hd),h3⟩
theorem atw (ts:LL) (x:T ts.length):eqT ts x x = true:=by
 unfold eqT subT;rw [T.add_neg,T.sgn_zero]; rfl
theorem bce {ts:LL} {r:Nat} (tw:Tw ts r) {k:Nat} {d:List Rat} (hd:ts[k]? = some d) :
  FnC prog 20 [.agg [.lst 1 (((ts.map nA).drop 0).take (k - 0))],nA d,nA d] (bl true):=by
 have hk:=(List.getElem?_eq_some_iff.1 hd).1;have h3:=tw.three;have hlen:=tw.len k hk;rw [aah hd] at hlen;have hl:(ts.take k).length = k:=by rw [length_take]; omega
 have hcb:=tw.rb.cb k;rw [aah hd] at hcb;have hlm:=apw k;have hle:=tw.le;have hm:Nm (ts.take k).length r d:=⟨by omega,.inr ⟨k,by omega,hlen⟩,hcb⟩
 have h:=aet (bi6 tw k) hm hm (by rw [hl]; omega);rw [atw] at h;rw [Nat.sub_zero,drop_zero,<- map_take];exact h
theorem bgj {ts:LL} {r:Nat} (tw:Tw ts r):FnC prog 123 [aa5 ts] (i64 0):=by
 have hC:=amb (ts.map (List.map rt)) r tw.tr;rw [tw.chk,ad2] at hC;exact hC
theorem a1l {ts:LL} {r:Nat} (tw:Tw ts r):FnC prog 45 [aa5 ts, aa5 ts] (bl true):=by
 have h3:=tw.three;refine gF0 func45 ?_;refine gc (bgj tw) ?_;refine gcG (fun _=>(bgj tw)) ?_;refine glG ?_;refine glG ?_;refine gC (fun ht22=>?_) (fun ht22=>?_) (st1:=(2,0))
 ·exact absurd ht22 (by simp [aaa])
 ·refine gl ?_;refine gL1 [2,3,25] [2,3] (fun (k:Nat)=>[(26,some (i64 k))]) (fun _=>[]) (fun k=>k <= ts.length) (fun k=>ts.length - k) 0 (zero_le _) ?_;rintro k hk K1 hK1;refine gC (fun ht27=>?_) (fun ht27=>?_)
  ·have hin:=aa9 ht27;obtain ⟨d,hd⟩:=ab5 hin;refine gs (aam (.tmp rfl) (.none _) (.some _ (.tmp rfl) oz) T34 rfl T46 rfl oz (by simp only [length_map]; omega) rfl) ?_;refine gi (aag hd) ?_;refine gi (aag hd) ?_;refine gc (bce tw hd) ?_;refine gD ?_;refine gC (fun ht45=>?_) (fun ht45=>?_) (st1:=(7,0))
   ·cases ht45
   ·refine ga aat ?_;exact gK1 hK1 (k + 1) hin
  ·refine gE1 ?_;rfl
theorem bkv {ts:LL} {r:Nat} (tw:Tw ts r) (h2:ts.length <= 2) {p:Pq} (hp:Pq.ok ts.length 80000000000 p):FnC prog 46 [aa5 ts, p.av, p.av] (bl true):=by
 have hl:lm ts.length = 200000000000:=by unfold lm; rw [if_pos h2]
 have h:=apy tw hp.c hp.s hp.x hp.y hp.c hp.s hp.x hp.y (by rw [hl]; omega);rw [atw,atw,atw,atw] at h;exact h
structure SolP (S:List Sv) (kd:Int) (n b:Nat):Prop where
  two:S.length <= 2
  ok:∀ s ∈ S,SvOk s
  md:∀ (i:Nat) (s:Sv),S[i]? = some s -> s.mode = (if kd = 0 then 1 else if S.length = 2 then 1 - 2 * (i:Int) else 0) /\ s.ts.length = n + (if S.length = 2 then 1 else 0) /\ s.ps.length = b
theorem ajl (kd:Int) (n b:Nat):SolP [] kd n b:=⟨by simp,by simp,by simp⟩
theorem bgf (f:Nat -> Sv) (n:Nat):((List.range n).map fun i=>(f i).av) = ((List.range n).map f).map Sv.av:=by rw [map_map]; rfl
theorem blo {ts:LL} {m:Mt} (ok:MtOk ts m) {hs:List Hd} (hl:hs.length <= 2) (H:∀ x ∈ m.ps, ∀ h ∈ hs, HdP m.ts x h) {kd:Int} (hk:kd ≠ 0) (lv:m.ts.length = ts.length + (if m.ps.length = 2 then 1 else 0)) :
  ∃ S:List Sv,plL m hs m.ps.length = S.map Sv.av /\ SolP S kd ts.length hs.length:=by
 have hln:=ok.ln;refine ⟨(List.range m.ps.length).map (plS m hs),bgf _ _,by simpa using hln,?_,?_⟩
 ·intro s hs2;obtain ⟨i,hi,rfl⟩:=List.mem_map.1 hs2;obtain ⟨x,hx⟩:=ab5 (List.mem_range.1 hi);obtain ⟨r,tw,_⟩:=ok.tw;refine ⟨⟨r,tw⟩,ok.two,?_,by simpa [plS] using hl⟩;intro p hp;unfold plS at hp;rw [aah hx] at hp;obtain ⟨h,hh,rfl⟩:=List.mem_map.1 hp;exact (H x (mem_of_getElem? hx) h hh).b.ok
 ·intro i s hi;have hin:i < m.ps.length:=by have:=(List.getElem?_eq_some_iff.1 hi).1; simpa using this
  have e:s = plS m hs i:=by simp [hin] at hi; exact hi.symm
  subst e;have hlen:((List.range m.ps.length).map (plS m hs)).length = m.ps.length:=by simp
  rw [hlen,if_neg hk];refine ⟨?_,lv,by simp [plS]⟩;show (if m.ps.length = 1 then 0 else 1 - 2 * (i:Int)) = _
  by_cases h2:m.ps.length = 2
  ·rw [if_neg oz,if_pos h2]
  ·rw [if_pos oz,if_neg h2]
theorem bjn {ts:LL} (p q:P2 ts) (z z2:Et ts) (h0:atf p q z z2 = 0):(asq p q z z2).ts.length = ts.length + (if (asq p q z z2).ps.length = 2 then 1 else 0):=by
 unfold atf bbx at h0;unfold asq bbu;split
 ·rename_i hd;rw [if_pos hd] at h0;split
  ·simp
  ·rename_i hz;split
   ·rename_i hp;rw [if_pos ⟨Decidable.not_not.1 hz,hp⟩] at h0; cases h0
   ·simp
 ·split
  ·simp
  ·split
   ·simp
   ·simp [acv]
theorem bhd {ts:LL} (p q o:P2 ts) (z:Et ts) (h0:azv p q = 0):(axj p q o z).ts.length = ts.length + (if (axj p q o z).ps.length = 2 then 1 else 0):=by
 unfold azv at h0;unfold axj;split
 ·rename_i hd;rw [if_pos hd] at h0; cases h0
 ·split
  ·simp
  ·split
   ·simp
   ·simp [acv]
theorem bj1 {l:Li} {a:As} (D:DyR l a) (hn:(llq a.rs).length <= 1) {g:Gr} {i k z0 z1 z2:Int} {j0 j1 j2:Jt} (P:RrrP l a g i k z0 z1 z2 j0 j1 j2):∃ S:List Sv, (a5r l a i k j0 j1 j2).1 = S.map Sv.av /\ SolP S 1 (llq a.rs).length 2:=by
 have c:=D.al.ct D.hc;obtain ⟨tw,etw⟩:=abr D.al.tr D.hc;have hq0:=ach D.hl D.li P.h0 P.p0.or;have hq1:=ach D.hl D.li P.h1 P.p1.or;have hq2:=ach D.hl D.li P.h2 P.t1;have hq3:=ach D.hl D.li P.h2 P.t2;obtain ⟨y1,y2⟩:=aek D.hl D.li D.al D.hc P.h0 P.p0;obtain ⟨y3,y4⟩:=aek D.hl D.li D.al D.hc P.h1 P.p1;haveI:=c;haveI q1:=a6c hq2 hq0;haveI q2:=a6c hq3 hq1;have z1:Zu 4000 300000 (qE (sqQ (aak l j2 i) (aak l j0 i)):Et (llq a.rs)) 3 0:=inferInstance;have z2:Zu 4000 300000 (qE (sqQ (aak l j2 k) (aak l j1 k)):Et (llq a.rs)) 3 0:=inferInstance;unfold a5r
 by_cases h1:ah9 [afp (aak l j2 i) (aak l j0 i),afp (aak l j2 k) (aak l j1 k)] = true
 ·rw [if_pos h1]; exact ⟨[],rfl,ajl _ _ _⟩
 ·rw [if_neg h1];obtain ⟨w1,w2⟩:=av7 (Bool.eq_false_iff.2 h1)
  by_cases h2:atf (aa1 l a j0 i) (aa1 l a j1 k) (qE (sqQ (aak l j2 i) (aak l j0 i))) (qE (sqQ (aak l j2 k) (aak l j1 k))) ≠ 0
  ·rw [if_pos h2]; exact ⟨[],rfl,ajl _ _ _⟩
  ·rw [if_neg h2];have h3:=Decidable.not_not.1 h2;have ok:=a1q (x:=(aa1 l a j0 i).1) (y:=(aa1 l a j0 i).2) (x2:=(aa1 l a j1 k).1) (y2:=(aa1 l a j1 k).2) tw hn c y1 y2 z1 y3 y4 z2 h3;exact blo ok (by simp) (fun x hx=>bfn (atk ok hx (y1.nm.mono (by decide)) (y2.nm.mono (by decide)) hq0 hq2 w1) (atk ok hx (y3.nm.mono (by decide)) (y4.nm.mono (by decide)) hq1 hq3 w2)) (by decide) (bjn _ _ _ _ h3)
theorem bnd {l:Li} {a:As} (D:DyR l a) (hn:(llq a.rs).length <= 1) {g:Gr} {i z0 z1:Int} {j0 j:Jt} (P:SlP l a g 2 i z0 z1 j0 j) (ha:j.a = i) (hb:Pd a j.b):∃ S:List Sv, (prR l a i j0 j).1 = S.map Sv.av /\ SolP S 2 (llq a.rs).length 1:=by
 have c:=D.al.ct D.hc;obtain ⟨tw,etw⟩:=abr D.al.tr D.hc;obtain ⟨i1,i2,i3,i4,i5⟩:=afv D.li P.h1;have hq2:Sm 1000 (mkQ l i j.point):=by rw [<- ha]; exact ajg D.hl D.li i1 i3
 have hq0:=ach D.hl D.li P.h0 P.p0.or;obtain ⟨y1,y2⟩:=aek D.hl D.li D.al D.hc P.h0 P.p0;obtain ⟨y3,y4⟩:=agu D.hl D.li D.al D.hc i2 i4 hb;obtain ⟨y5,y6⟩:=agu D.hl D.li D.al D.hc i2 (i5 P.hk) hb;haveI:=c;haveI q1:=a6c hq2 hq0;have z1:Zu 4000 300000 (qE (sqQ (mkQ l i j.point) (aak l j0 i)):Et (llq a.rs)) 3 0:=inferInstance;unfold prR
 by_cases h1:ah9 [afp (mkQ l i j.point) (aak l j0 i)] = true
 ·rw [if_pos h1]; exact ⟨[],rfl,ajl _ _ _⟩
 ·rw [if_neg h1];have w1:=aut (Bool.eq_false_iff.2 h1)
  by_cases h2:azv (plE l a j.b j.on) (plE l a j.b j.to) ≠ 0
  ·rw [if_pos h2]; exact ⟨[],rfl,ajl _ _ _⟩
  ·rw [if_neg h2];have h3:=Decidable.not_not.1 h2;have ok:=a0f (o:=aa1 l a j0 i) (p:=plE l a j.b j.on) (q:=plE l a j.b j.to) (z:=qE (sqQ (mkQ l i j.point) (aak l j0 i))) tw hn c y1 y2 y3 y4 y5 y6 z1 h3;exact blo ok (by simp) (fun x hx=>a9k (atk ok hx (y1.nm.mono (by decide)) (y2.nm.mono (by decide)) hq0 hq2 w1)) (by decide) (bhd _ _ _ _ h3)
theorem bmw {ts T:LL} {R:Rp} {qs:LL} (ct:Cy T 700000000 1000000000) (hl:qs.length <= 2) (h1:1 <= qs.length) (H:∀ q ∈ qs, RqP T R q) (lv:T.length = ts.length + (if qs.length = 2 then 1 else 0)):∃ S:List Sv, rqL T R qs qs.length = S.map Sv.av /\ SolP S 3 ts.length 1:=by
 refine ⟨(List.range qs.length).map (rqS T R qs),bgf _ _,by simpa using hl,?_,?_⟩
 ·intro s hs2;obtain ⟨i,hi,rfl⟩:=List.mem_map.1 hs2;obtain ⟨x,hx⟩:=ab5 (List.mem_range.1 hi);obtain ⟨r,tw,_⟩:=ct.ex;refine ⟨⟨r,tw⟩,ct.two,?_,by simp [rqS]⟩;intro p hp;unfold rqS at hp;rw [aah hx] at hp;rw [List.mem_singleton.1 hp];exact (H x (mem_of_getElem? hx)).b.ok
 ·intro i s hi;have hin:i < qs.length:=by have:=(List.getElem?_eq_some_iff.1 hi).1; simpa using this
  have e:s = rqS T R qs i:=by simp [hin] at hi; exact hi.symm
  subst e;have hlen:((List.range qs.length).map (rqS T R qs)).length = qs.length:=by simp
  rw [hlen,if_neg (by decide)];refine ⟨?_,lv,by simp [rqS]⟩;show (if qs.length = 1 then 0 else 1 - 2 * (i:Int)) = _
  by_cases h2:qs.length = 2
  ·rw [if_neg oz,if_pos h2]
  ·rw [if_pos oz,if_neg h2]
theorem bnn {l:Li} {a:As} (D:DyR l a) (hn:(llq a.rs).length <= 1) {g:Gr} {i z0 z1:Int} {j0 j:Jt} (P:SlP l a g 3 i z0 z1 j0 j) (hj:j.b = i) (hb:Pd a j.a):∃ S:List Sv, (rpR l a i j0 j).1 = S.map Sv.av /\ SolP S 3 (llq a.rs).length 1:=by
 obtain ⟨tw,etw⟩:=abr D.al.tr D.hc;have F:=a7g D hn P hj hb;unfold rpR
 by_cases h1:sgE (rpD l a i j0 j) = 0 /\ sgE (qE (rpH l i j0 j):Et (llq a.rs)) = 0
 ·rw [if_pos h1]; exact ⟨[],rfl,ajl _ _ _⟩
 ·rw [if_neg h1]
  by_cases h2:sgE (rpX l a i j0 j) < 0
  ·rw [if_pos h2]; exact ⟨[],rfl,ajl _ _ _⟩
  ·rw [if_neg h2];have hd0:sgE (rpD l a i j0 j) ≠ 0:=bi7 tw h2 h1
   by_cases h3:0 < sgE (rpX l a i j0 j)
   ·rw [if_pos h3];obtain ⟨E,R1,R2,_⟩:=a6o F tw hn hd0 oz;exact bmw (ts:=llq a.rs) (qs:=[adb (llq a.rs).length,sX (-lnR (rpX l a i j0 j))]) E.cy (le_refl 2) (by show 1 <= 2; omega) (bfn R1 R2) (acv (llq a.rs) (sX (rpX l a i j0 j)))
   ·rw [if_neg h3];obtain ⟨cs,R0⟩:=a20 F tw hn hd0;exact bmw (ts:=llq a.rs) (qs:=[[]]) cs (by show 1 <= 2; omega) (le_refl 1) (a9k R0) rfl
theorem bko {l:Li} {a:As} (D:DyR l a) (hn:(llq a.rs).length <= 1) {i z0:Int} {j0:Jt} (h0:l.joints[z0.toNat]? = some j0) (p0:PinP l a j0 i) {x:Tn} (hq:Qb 1000 x.t.q):∃ S:List Sv, (a1m l a i j0 x).1 = S.map Sv.av /\ SolP S 0 (llq a.rs).length 1:=by
 obtain ⟨tw,etw⟩:=abr D.al.tr D.hc;unfold a1m
 by_cases he:x.err ≠ 0
 ·rw [if_pos he]; exact ⟨[],rfl,ajl _ _ _⟩
 ·rw [if_neg he];refine ⟨[⟨llq a.rs,[bpa l a i j0 x],1⟩],rfl,by simp,a9k ⟨⟨40000,tw⟩,by show (llq a.rs).length <= 2; omega,a9k (bgw D hn h0 p0 hq).ok,by show 1 <= 2; omega⟩,?_⟩;intro n s hs
  match n,hs with
  | 0,hs=>cases hs; exact ⟨rfl,rfl,rfl⟩
theorem bh4 {l:Li} {k:Int} {a:As} {n:Nat} {g:Gr} {x:Tn} (D:DyR l a) (hn:(llq a.rs).length <= 1) (ok:DyOk l k a false n g) (hq:Qb 1000 x.t.q):∃ S:List Sv, (a55 l a g x).1 = S.map Sv.av /\ SolP S g.kind (llq a.rs).length g.bodies.length:=by
 unfold a55
 by_cases hk0:g.kind = 0
 ·obtain ⟨i, z0, d, j0, e, hj0, p0⟩:=auu ok hk0;rw [if_pos hk0,e];show ∃ S:List Sv,(a1m l a i (l.joints.getD z0.toNat default) x).1 = _ /\ _;rw [aah hj0];exact bko D hn hj0 p0 hq
 ·rw [if_neg hk0]
  by_cases hk1:g.kind = 1
  ·obtain ⟨i, k2, z0, z1, z2, j0, j1, j2, P⟩:=ok.rrr hk1;obtain ⟨e0,e1,e2,b0,b1,_⟩:=P.at;rw [if_pos hk1,e0,e1,e2,b0,b1,hk1,P.eq];exact bj1 D hn P
  ·rw [if_neg hk1]
   by_cases hk2:g.kind = 2
   ·obtain ⟨i, z0, z1, j0, j, P, ha, hb⟩:=ok.pr hk2;obtain ⟨e0,e1,b0,_⟩:=P.at;rw [if_pos hk2,e0,e1,b0,hk2,P.eq];exact bnd D hn P ha hb
   ·obtain ⟨i, z0, z1, j0, j, P, _, hj, hb⟩:=ok.rp hk0 hk1 hk2;obtain ⟨e0,e1,b0,hk3⟩:=P.at;rw [if_neg hk2,e0,e1,b0,hk3,P.eq];exact bnn D hn P hj hb
end Go.Lw
namespace Go.Lw
open Go.Proofs
theorem a0c {S:List Sv} (hS:∀ s ∈ S, SvOk s) (hl:S.length <= 2):FnC prog 13 [.lst 3 (S.map Sv.av), .lst 3 (S.map Sv.av)] (bl true):=by
 refine gF0 func13 ?_;refine gl ?_;refine gl ?_;refine gC (fun ht13=>?_) (fun ht13=>?_) (st1:=(2,0))
 ·exact absurd ht13 (by simp [aaa])
 ·refine gl ?_;refine gL1 [0,1,14,15] [] (fun (i:Nat)=>[(16,some (i64 i))]) (fun _=>[]) (fun i=>i <= S.length) (fun i=>S.length - i) 0 (zero_le _) ?_;rintro i hi K1 hK1;refine gC (fun ht17=>?_) (fun ht17=>?_)
  ·have hin:=aa9 ht17;obtain ⟨s,hs⟩:=ab5 hin;have ok:=hS s (mem_of_getElem? hs);obtain ⟨r,tw⟩:=ok.tw;have hln:=ok.ln;refine gi (aag hs) ?_;refine gi (aag hs) ?_;refine glG ?_;refine glG ?_;refine gcG (fun _=>(a1l tw)) ?_;refine gC (fun ht46=>?_) (fun ht46=>?_) (st1:=(8,0))
   ·exact absurd ht46 (by simp [aaa])
   ·refine gl ?_;refine gL1 [0,1,14,15,16,6,7,49] [6,7] (fun (k:Nat)=>[(50,some (i64 k))]) (fun _=>[]) (fun k=>k <= s.ps.length) (fun k=>s.ps.length - k) 0 (zero_le _) ?_;rintro k hk K2 hK2;refine gC (fun ht51=>?_) (fun ht51=>?_)
    ·have hkn:=aa9 ht51;obtain ⟨p,hp⟩:=ab5 hkn;refine gi (aag hp) ?_;refine gi (aag hp) ?_;refine gc (bkv tw ok.two (ok.ps p (mem_of_getElem? hp))) ?_;refine gD ?_;refine gC (fun ht66=>?_) (fun ht66=>?_) (st1:=(13,0))
     ·cases ht66
     ·refine ga aat ?_;exact gK1 hK2 (k + 1) hkn
    ·refine ga aat ?_;exact gK1 hK1 (i + 1) hin
  ·refine gE1 ?_;rfl
end Go.Lw
namespace Go.Lw
section
variable {l:Li} {a:As} {bs:List Pl} {ms:List Int} {g:Gr}
end
end Go.Lw
namespace Go.Lw
variable {P:Program} {N:Nat} {R:Array Oper} {s:AS}
theorem a5k {d n:Nat} {os:List Operand} {es:List AV} {T E t:TypeId} {ti te:TI} {pos:String} {after:Array Edge} {parts:Array (Nat × Operand)}
  (hp:parts = (apx 0 os).toArray) (hx:EvL s os es) (hT:aao P T = some ti) (hk:ti.k = .slice E) (hE:aao P E = some te) (hz:te.zero.all Value.oneCell' = true)
  (hz0:Nat.beq te.zero.length te.size = true) (hes:(es.all fun e=>Nat.beq e.cells.length te.size && e.ok) = true) (hnm:AV.nms es = [])
  (hn:n = es.length) (hb:Nat.ble (n * te.size) 16777216 = true) (hb':Nat.ble n 16777216 = true) (hN:Nat.blt d N = true) :
  Step P N R s ⟨some d,.buildSlice T n parts,t,pos,after,none⟩ ⟨some (.ms d te.size 0 n),[(d,some (.row te.size es))],rtL os,[]⟩ :=
 ak9 rfl rfl hN (by simp) fun s' hag hfr C m a w hr => by
  subst hp;rw [Nat.ble_eq] at hb hb';have hx':=hx.agree hag (fun _ h=>h);obtain ⟨c,h1,h2⟩:=aia (w:=w) hT hk hE hz hz0 (fun o x h=>h.rep hr) hx' hes hn oz;refine ⟨.slice (some ⟨w.heap.size,0,none⟩) n n,c,E,w.drawn,?_,fun h=>h,?_,?_⟩
  ·have : ((apx 0 os).toArray.map fun p => (p.1, a.eval p.2)) = ((apx 0 os).map fun p => (p.1, a.eval p.2)).toArray := by simp
   simp only [execOp,Sem.run_bind,this,h1,Result.andThen_ok,Sem.run_pure]
  ·intro g S m' w' hg hS hm hw;subst hn
   have hnm':∀ x ∈ as3 es, x.nm = []:=by
    have hh:=au5 hnm;clear h2 h1 hx' hx hes hb hb' hnm hag
    induction es with
    | nil=>intro x hx; cases hx
    | cons e es ih =>
     intro x hx;simp only [as3,mem_append] at hx;rcases hx with hx | hx
     ·have := hh e (by simp)
      cases e <;> simp only [AV.cells, List.mem_singleton] at hx <;> first
       | (subst hx; exact this)
       | (exact au5 this x hx)
     ·exact ih (fun e he=>hh e (by simp [he])) x hx
   have h3:abe g S acm c.toList (as3 es):=h2.mono hg hS (fun x hx k b hk _=>by have:=hk.mem; rw [hnm' x hx] at this; cases this);have hs:=avq hes;have hlen:=aji es hs;have hsz:c.size = es.length * te.size:=by have:=h3.1; simp at this; omega
   have hcell:∀ (i j:Nat) (e x:AV), es[i]? = some e -> e.cells[j]? = some x -> ∃ u, c[i * te.size + j]? = some u /\ x.one = true /\ Rep g S acm u x:=by
    intro i j e x he hx;have hf:=awn es hs i j e x he hx
    have hlt:i * te.size + j < (as3 es).length:=by
     rcases lt_or_ge (i * te.size + j) (as3 es).length with h | h
     ·exact h
     ·rw [getElem?_eq_none h] at hf; cases hf
    have hlt':i * te.size + j < c.size:=by omega
    refine ⟨c[i * te.size + j],Array.getElem?_eq_getElem hlt',h3.2.1 _ x hf,h3.2.2 _ _ x (by simp [hlt']) hf⟩
   refine .row hw oz (by unfold ac8; omega) (fun i e he=>hs e (mem_of_getElem? he)) ?_ ?_
   ·intro i j e x he hx; obtain ⟨u,_,h,_⟩:=hcell i j e x he hx; exact h
   ·intro i j e u x he hx hu;obtain ⟨u',h,_,h2⟩:=hcell i j e x he hx;rw [hu] at h; cases h
    exact h2
  ·intro g S m' hm hS
   have:=Rep.ms (g:=g) (S:=S) (m:=m') (k:=d) (sz:=te.size) (off:=0) (len:=n) (cap:=n) hm (le_refl _) (by
    have hl:=aji es (avq hes);have h9:=h2.1;have e:c.size = n * te.size:=by simp at h9; rw [hn]; omega
    rw [Nat.zero_add,<- e]; exact hS)
   simpa using this
end Go.Lw
namespace Go.Lw
open Go.Proofs
theorem af3 (i:Int) (n:Nat):FnC prog 93 [i64 i, i64 n] (bl (inB i n)):=by
 refine gF0 func93 ?_;refine gE1 ?_;exact congrArg bl (a3e i n)
theorem a4p (p q:Mk) (hp:p.ok) (hq:q.ok):FnC prog 94 [p.av, q.av] (bl (decide (p.x.q = q.x.q /\ p.y.q = q.y.q))):=by
 refine gF0 func94 ?_;refine gc (ayq p.x q.x hp.x hq.x ((hp.qx.sub hq.qx).qs oz)) ?_;refine gcG (fun _=>(ayq p.y q.y hp.y hq.y ((hp.qy.sub hq.qy).qs oz))) ?_;refine gE1 ?_;exact congrArg bl be9
theorem azl (b:Bd) (hbo:b.ok):FnC prog 92 [b.av] (i64 (if 8 < b.pts.length then 4 else aej b.pts.length (mkE b.pts):Nat)):=by
 have hll:=hbo.ll;refine gF0 func92 ?_;refine gl ?_;refine gC (fun ht9=>?_) (fun ht9=>?_)
 ·have h0:8 < b.pts.length:=an2 ht9;refine gE1 ?_;rw [if_pos h0]; rfl
 ·have h0:b.pts.length <= 8:=apu ht9;have e0:(if 8 < b.pts.length then 4 else aej b.pts.length (mkE b.pts):Nat) = aej b.pts.length (mkE b.pts):=if_neg oz;refine gL1 [1] [1] (fun (p:Nat)=>[(3,some (i64 p))]) (fun _=>[]) (fun p=>p <= b.pts.length /\ ∀ j,j < p -> mkE b.pts j = 0) (fun p=>b.pts.length - p) 0 ⟨zero_le _,fun j h=>by omega⟩ ?_;rintro p ⟨hp,hpj⟩ K1 hK1;refine gl ?_;refine gC (fun ht14=>?_) (fun ht14=>?_)
  ·have hpn:=aa9 ht14;obtain ⟨m,hm⟩:=ab5 hpn;have hmd:b.pts.getD p default = m:=aah hm;have hmm:=mem_of_getElem? hm;have hmdup:=ago Mk.name hm;have hmo:=hbo.pts m hmm;refine gi (aag hm) ?_;refine gc (aiv m.name (hbo.names m hmm)) ?_;refine gC (fun ht25=>?_) (fun ht25=>?_)
   ·have h4:=af8 ht25;have e2:mkE b.pts p = 5:=by unfold mkE; rw [hmd,if_pos h4]
    refine gE1 ?_;rw [e0,aba hpn hpj (by rw [e2]; decide),e2]; rfl
   ·have h4:=af1 ht25;refine gL1 [1,3,4] [1,4] (fun (q:Nat)=>[(5,some (i64 q))]) (fun _=>[]) (fun q=>q <= p /\ (b.pts.take q).any (fun y=>eqS y.name m.name) = false) (fun q=>p - q) 0 ⟨zero_le _,rfl⟩ ?_;rintro q ⟨hq,hqd⟩ K2 hK2;refine gC (fun ht28=>?_) (fun ht28=>?_)
    ·have hqn:=aa9 ht28;obtain ⟨y,hy⟩:∃ y,b.pts[q]? = some y:=ab5 oz;refine gi (aag hy) ?_;refine gD ?_;refine gC (fun ht39=>?_) (fun ht39=>?_)
     ·have h5:eqS y.name m.name = true:=ht39;have e2:mkE b.pts p = 6:=by unfold mkE; rw [hmd,if_neg (by rw [h4]; decide),if_pos (by rw [hmdup]; exact ah6 hy hqn h5)]
      refine gE1 ?_;rw [e0,aba hpn hpj (by rw [e2]; decide),e2]; rfl
     ·have h5:eqS y.name m.name = false:=ht39;refine ga aat ?_;exact gK1 hK2 (q + 1) ⟨hqn,afc hy hqd h5⟩
    ·have hqn:=aan hq ht28;subst hqn;have hmnd:¬ ayi (b.pts.map Mk.name) q = true:=by rw [hmdup,hqd]; decide
     refine gc (ahh m.x hmo.x) ?_;refine gcG (fun _=>(ahh m.y hmo.y)) ?_;refine gC (fun ht49=>?_) (fun ht49=>?_)
     ·have h6:=bim ht49;have e2:mkE b.pts q = 3:=by unfold mkE; rw [hmd,if_neg (by rw [h4]; decide),if_neg hmnd,if_neg (by rintro ⟨g1,g2⟩; rcases h6 with g | g; (rw [g1] at g; cases g); (rw [g2] at g; cases g))]
      refine gE1 ?_;rw [e0,aba hpn hpj (by rw [e2]; decide),e2]; rfl
     ·have h6:=bil ht49;have e2:mkE b.pts q = 0:=by unfold mkE; rw [hmd,if_neg (by rw [h4]; decide),if_neg hmnd,if_pos h6]
      refine ga aat ?_;exact gK1 hK1 (q + 1) ⟨hpn,fun j h9=>by rcases lt_or_ge j q with g | g; exact hpj j g; (have:j = q:=by omega); subst this; exact e2⟩
  ·have hpn:=aan hp ht14;subst hpn;refine gE1 ?_;rw [e0,ae0 hpj]; rfl
theorem ayu (l:Li) (hl:l.ok):FnC prog 29 [l.av] (i64 (a1n l)):=by
 have hlb:=hl.lb;have e0:a1n l = aej l.bodies.length (bdE l.bodies):=rfl;refine gF0 func29 ?_;refine gL1 [1] [1] (fun (i:Nat)=>[(3,some (i64 i))]) (fun _=>[]) (fun i=>i <= l.bodies.length /\ ∀ j,j < i -> bdE l.bodies j = 0) (fun i=>l.bodies.length - i) 0 ⟨zero_le _,fun j h=>by omega⟩ ?_;rintro i ⟨hi,hj⟩ K1 hK1;refine gl ?_;refine gC (fun ht10=>?_) (fun ht10=>?_)
 ·have hin:=aa9 ht10;obtain ⟨b,hb⟩:=ab5 hin;have hbd:l.bodies.getD i default = b:=aah hb;have hbo:=hl.bodies b (mem_of_getElem? hb);have hbdup:=ago Bd.name hb;refine gi (aag hb) ?_;refine gc (aiv b.name hbo.name) ?_;refine gC (fun ht20=>?_) (fun ht20=>?_)
  ·have h1:=af8 ht20;have e1:bdE l.bodies i = 5:=by unfold bdE; rw [hbd,if_pos h1]
   refine gE1 ?_;rw [e0,aba hin hj (by rw [e1]; decide),e1]; rfl
  ·have h1:=af1 ht20;refine gL1 [1,3] [1] (fun (k:Nat)=>[(4,some (i64 k))]) (fun _=>[]) (fun k=>k <= i /\ (l.bodies.take k).any (fun y=>eqS y.name b.name) = false) (fun k=>i - k) 0 ⟨zero_le _,rfl⟩ ?_;rintro k ⟨hk,hd⟩ K2 hK2;refine gC (fun ht23=>?_) (fun ht23=>?_)
   ·have hkn:=aa9 ht23;obtain ⟨y,hy⟩:∃ y,l.bodies[k]? = some y:=ab5 oz;refine gi (aag hy) ?_;refine gi (aag hb) ?_;refine gD ?_;refine gC (fun ht38=>?_) (fun ht38=>?_)
    ·have h2:eqS y.name b.name = true:=ht38;have e1:bdE l.bodies i = 6:=by unfold bdE; rw [hbd,if_neg (by rw [h1]; decide),if_pos (by rw [hbdup]; exact ah6 hy hkn h2)]
     refine gE1 ?_;rw [e0,aba hin hj (by rw [e1]; decide),e1]; rfl
    ·have h2:eqS y.name b.name = false:=ht38;refine ga aat ?_;exact gK1 hK2 (k + 1) ⟨hkn,afc hy hd h2⟩
   ·have hkn:=aan hk ht23;subst hkn;have hnd:¬ ayi (l.bodies.map Bd.name) k = true:=by rw [hbdup,hd]; decide
    have e1:bdE l.bodies k = if 8 < b.pts.length then 4 else aej b.pts.length (mkE b.pts):=by unfold bdE; rw [hbd,if_neg (by rw [h1]; decide),if_neg hnd]
    refine gi (aag hb) ?_;refine gc (azl b hbo) ?_;refine gC (fun ht46=>?_) (fun ht46=>?_)
    ·have h3:=ahv ht46;refine gE1 ?_;rw [e0,aba hin hj (by rw [e1]; exact h3),e1]
    ·have h3:=aho ht46;refine ga aat ?_;exact gK1 hK1 (k + 1) ⟨hin,fun j h9=>by rcases lt_or_ge j k with g | g; exact hj j g; (have:j = k:=by omega); subst this; exact e1.trans h3⟩
 ·have hin:=aan hi ht10;subst hin;refine gE1 ?_;rw [e0,ae0 hj]; rfl
theorem a04 (l:Li) (hl:l.ok) (i:Nat) (hi:i < l.joints.length) (h16:l.joints.length <= 16):FnC prog 30 [l.av, i64 i] (i64 (jtE l i)):=by
 obtain ⟨j,hjj⟩:=ab5 hi;have hbd:l.joints.getD i default = j:=aah hjj;have hbdup:=ago Jt.name hjj;refine gF0 func30 ?_;refine gi (aag hjj) ?_;refine gc (aiv j.name (hl.jnames j (mem_of_getElem? hjj))) ?_;refine gC (fun ht17=>?_) (fun ht17=>?_)
 ·have h0:=af8 ht17;refine gE1 ?_;unfold jtE; rw [hbd,if_pos h0]; rfl
 ·have h0:=af1 ht17;refine gL1 [1,2,5] [2,5] (fun (k:Nat)=>[(6,some (i64 k))]) (fun _=>[]) (fun k=>k <= i /\ (l.joints.take k).any (fun y=>eqS y.name j.name) = false) (fun k=>i - k) 0 ⟨zero_le _,rfl⟩ ?_;rintro k ⟨hk,hd⟩ K1 hK1;refine gC (fun ht20=>?_) (fun ht20=>?_)
  ·have hkn:=aa9 ht20;obtain ⟨y,hy⟩:∃ y,l.joints[k]? = some y:=ab5 oz;refine gi (aag hy) ?_;refine gD ?_;refine gC (fun ht31=>?_) (fun ht31=>?_)
   ·have h2:eqS y.name j.name = true:=ht31;refine gE1 ?_;unfold jtE; rw [hbd,if_neg (by rw [h0]; decide),if_pos (by rw [hbdup]; exact ah6 hy hkn h2)]; rfl
   ·have h2:eqS y.name j.name = false:=ht31;refine ga aat ?_;exact gK1 hK1 (k + 1) ⟨hkn,afc hy hd h2⟩
  ·have hkn:=aan hk ht20;subst hkn;have hnd:¬ ayi (l.joints.map Jt.name) k = true:=by rw [hbdup,hd]; decide
   have e1:jtE l k = jt0 l j:=by unfold jtE; rw [hbd,if_neg (by rw [h0]; decide),if_neg hnd]
   refine gC (fun ht39=>?_) (fun ht39=>?_)
   ·have h1:=bgt ht39;refine gE1 ?_;rw [e1]; unfold jt0; rw [if_pos h1]; rfl
   ·have h1:=bgn ht39;refine gl ?_;refine gc (af3 j.a l.bodies.length) ?_;refine glG ?_;refine gcG (fun _=>(af3 j.b l.bodies.length)) ?_;refine gC (fun ht55=>?_) (fun ht55=>?_)
    ·have h2:=bim ht55;refine gE1 ?_;rw [e1]; unfold jt0; rw [if_neg h1,if_pos h2]; rfl
    ·have h2:=bil ht55;have h2n:¬ (inB j.a l.bodies.length = false \/ inB j.b l.bodies.length = false):=by rw [h2.1,h2.2]; simp
     obtain ⟨A,hA,pA,mA,zA0⟩:=atr h2.1;obtain ⟨B,hB,pB,mB,zB0⟩:=atr h2.2;refine gC (fun ht60=>?_) (fun ht60=>?_)
     ·have h3:=aco ht60;refine gE1 ?_;rw [e1]; unfold jt0; rw [if_neg h1,if_neg h2n,if_pos h3]; rfl
     ·have h3:=ac5 ht60;refine gi (aag hA) ?_;refine gi (aag hB) ?_;refine gD ?_;refine gl ?_;refine gc (af3 j.point A.pts.length) ?_;refine glG ?_;refine gcG (fun _=>(af3 j.on B.pts.length)) ?_;refine gC (fun ht88=>?_) (fun ht88=>?_)
      ·have h4:=bim ht88;refine gE1 ?_;rw [e1]; unfold jt0; rw [if_neg h1,if_neg h2n,if_neg h3,pA,pB,if_pos h4]; rfl
      ·have h4:=bil ht88;have h4n:¬ (inB j.point A.pts.length = false \/ inB j.on B.pts.length = false):=by rw [h4.1,h4.2]; simp
       refine gC (fun ht91=>?_) (fun ht91=>?_)
       ·have h5:=aco ht91;refine gC (fun ht94=>?_) (fun ht94=>?_)
        ·have h6:=ay5 ht94;refine gE1 ?_;rw [e1]; unfold jt0; rw [if_neg h1,if_neg h2n,if_neg h3,pA,pB,if_neg h4n,if_pos h5,if_pos h6]; rfl
        ·have h6:=a9h ht94;refine gE1 ?_;rw [e1]; unfold jt0; rw [if_neg h1,if_neg h2n,if_neg h3,pA,pB,if_neg h4n,if_pos h5,if_neg (by rw [h6]; simp)]; rfl
       ·have h5:=ac5 ht91;refine gl ?_;refine gc (af3 j.to B.pts.length) ?_;refine gC (fun ht100=>?_) (fun ht100=>?_)
        ·have h6:=af8 ht100;refine gE1 ?_;rw [e1]; unfold jt0; rw [if_neg h1,if_neg h2n,if_neg h3,pA,pB,if_neg h4n,if_neg h5,if_pos h6]; rfl
        ·have h6:=af1 ht100;obtain ⟨m1,g1,d1,mm1,z1⟩:=aww h4.2;obtain ⟨m2,g2,d2,mm2,z2⟩:=aww h6;have mo1:=(hl.bodies B mB).pts m1 mm1;have mo2:=(hl.bodies B mB).pts m2 mm2;refine gi (aag g1) ?_;refine gi (aag g2) ?_;refine gc (a4p m1 m2 mo1 mo2) ?_;refine gD ?_;refine gC (fun ht111=>?_) (fun ht111=>?_)
         ·have h7:=of_decide_eq_true ht111;refine gE1 ?_;rw [e1]; unfold jt0; rw [if_neg h1,if_neg h2n,if_neg h3,pA,pB,if_neg h4n,if_neg h5,if_neg (by rw [h6]; decide),d1,d2,if_pos h7]; rfl
         ·have h7:=of_decide_eq_false ht111;refine gE1 ?_;rw [e1]; unfold jt0; rw [if_neg h1,if_neg h2n,if_neg h3,pA,pB,if_neg h4n,if_neg h5,if_neg (by rw [h6]; decide),d1,d2,if_neg h7]; rfl
theorem axi (l:Li) (hl:l.ok) (i:Nat) (hi:i < l.drivers.length) (h2l:l.drivers.length <= 2):FnC prog 31 [l.av, i64 i] (i64 (drE l i)):=by
 obtain ⟨b,hb⟩:=ab5 hi;have hbd:l.drivers.getD i default = b:=aah hb;have hbdup:=ago Dr.name hb;refine gF0 func31 ?_;refine gi (aag hb) ?_;refine gc (aiv b.name (hl.dnames b (mem_of_getElem? hb))) ?_;refine gC (fun ht16=>?_) (fun ht16=>?_)
 ·have h1:=af8 ht16;refine gE1 ?_;unfold drE; rw [hbd,if_pos h1]; rfl
 ·have h1:=af1 ht16;refine gL1 [1,2,5] [2,5] (fun (k:Nat)=>[(6,some (i64 k))]) (fun _=>[]) (fun k=>k <= i /\ (l.drivers.take k).any (fun y=>eqS y.name b.name) = false) (fun k=>i - k) 0 ⟨zero_le _,rfl⟩ ?_;rintro k ⟨hk,hd⟩ K1 hK1;refine gC (fun ht19=>?_) (fun ht19=>?_)
  ·have hkn:=aa9 ht19;obtain ⟨y,hy⟩:∃ y,l.drivers[k]? = some y:=ab5 oz;refine gi (aag hy) ?_;refine gD ?_;refine gC (fun ht30=>?_) (fun ht30=>?_)
   ·have h2:eqS y.name b.name = true:=ht30;refine gE1 ?_;unfold drE; rw [hbd,if_neg (by rw [h1]; decide),if_pos (by rw [hbdup]; exact ah6 hy hkn h2)]; rfl
   ·have h2:eqS y.name b.name = false:=ht30;refine ga aat ?_;exact gK1 hK1 (k + 1) ⟨hkn,afc hy hd h2⟩
  ·have hkn:=aan hk ht19;subst hkn;have hnd:¬ ayi (l.drivers.map Dr.name) k = true:=by rw [hbdup,hd]; decide
   refine gl ?_;refine gc (af3 b.body l.bodies.length) ?_;refine gC (fun ht37=>?_) (fun ht37=>?_)
   ·have h3:=af8 ht37;refine gE1 ?_;unfold drE; rw [hbd,if_neg (by rw [h1]; decide),if_neg hnd,if_pos h3]; rfl
   ·have h3:=af1 ht37;refine gC (fun ht40=>?_) (fun ht40=>?_)
    ·have h4:=aco ht40;refine gE1 ?_;unfold drE; rw [hbd,if_neg (by rw [h1]; decide),if_neg hnd,if_neg (by rw [h3]; decide),if_pos h4]; rfl
    ·have h4:=ac5 ht40;have e1:drE l k = if (l.drivers.take k).any (fun d=>decide (d.body = b.body)) = true then 6 else 0:=by unfold drE; rw [hbd,if_neg (by rw [h1]; decide),if_neg hnd,if_neg (by rw [h3]; decide),if_neg h4]
     refine gL1 [1,2,5] [2,5] (fun (q:Nat)=>[(7,some (i64 q))]) (fun _=>[]) (fun q=>q <= k /\ (l.drivers.take q).any (fun d=>decide (d.body = b.body)) = false) (fun q=>k - q) 0 ⟨zero_le _,rfl⟩ ?_;rintro q ⟨hq,hqd⟩ K2 hK2;refine gC (fun ht43=>?_) (fun ht43=>?_)
     ·have hqn:=aa9 ht43;obtain ⟨y,hy⟩:∃ y,l.drivers[q]? = some y:=ab5 oz;refine gi (aag hy) ?_;refine gD ?_;refine gC (fun ht54=>?_) (fun ht54=>?_)
      ·have h5:decide (y.body = b.body) = true:=decide_eq_true (aco ht54);refine gE1 ?_;rw [e1,if_pos (ah6 hy hqn h5)]; rfl
      ·have h5:decide (y.body = b.body) = false:=decide_eq_false (ac5 ht54);refine ga aat ?_;exact gK1 hK2 (q + 1) ⟨hqn,afc hy hqd h5⟩
     ·have hqn:=aan hq ht43;subst hqn;refine gE1 ?_;rw [e1,hqd]; rfl
theorem a1a (l:Li) (hl:l.ok):FnC prog 10 [l.av] (i64 (liE l)):=by
 have hlb:=hl.lb;refine gF0 func10 ?_;refine gc (aiv l.name hl.name) ?_;refine gC (fun ht11=>?_) (fun ht11=>?_)
 ·have h1:=af8 ht11;refine gE1 ?_;unfold liE; rw [if_pos h1]; rfl
 ·have h1:=af1 ht11;refine gl ?_;refine gC (fun ht15=>?_) (fun ht15=>?_)
  ·have h2:=bgp ht15;refine gE1 ?_;unfold liE; rw [if_neg (by rw [h1]; decide),if_pos h2]; rfl
  ·have h2:=bgz ht15;refine gl ?_;refine gC (fun ht19=>?_) (fun ht19=>?_)
   ·have h3:8 < l.bodies.length:=an2 ht19;refine gE1 ?_;unfold liE; rw [if_neg (by rw [h1]; decide),if_neg h2,if_pos h3]; rfl
   ·have h3:l.bodies.length <= 8:=apu ht19;have e0:liE l = if a1n l ≠ 0 then a1n l else if ase l ≠ 0 then ase l else a0b l:=by unfold liE; rw [if_neg (by rw [h1]; decide),if_neg h2,if_neg oz]
    refine gc (ayu l hl) ?_;refine gC (fun ht23=>?_) (fun ht23=>?_)
    ·have h4:a1n l ≠ 0:=ahv ht23;refine gE1 ?_;rw [e0,if_pos h4]
    ·have h4:a1n l = 0:=aho ht23;refine gl ?_;refine gC (fun ht28=>?_) (fun ht28=>?_)
     ·have h5:16 < l.joints.length:=an2 ht28;have ej:ase l = 4:=by unfold ase; rw [if_pos h5]
      refine gE1 ?_;rw [e0,if_neg (by rw [h4]; simp),if_pos (by rw [ej]; decide),ej]; rfl
     ·have h5:l.joints.length <= 16:=apu ht28;have ej:ase l = aej l.joints.length (jtE l):=by unfold ase; rw [if_neg oz]
      refine gL1 [1] [1] (fun (i:Nat)=>[(4,some (i64 i))]) (fun _=>[]) (fun i=>i <= l.joints.length /\ ∀ j,j < i -> jtE l j = 0) (fun i=>l.joints.length - i) 0 ⟨zero_le _,fun j h=>by omega⟩ ?_;rintro i ⟨hi,hj⟩ K1 hK1;refine gl ?_;refine gC (fun ht33=>?_) (fun ht33=>?_)
      ·have hin:=aa9 ht33;refine gc (a04 l hl i hin h5) ?_;refine gC (fun ht40=>?_) (fun ht40=>?_)
       ·have h6:=ahv ht40;refine gE1 ?_;rw [e0,if_neg (by rw [h4]; simp),if_pos (by rw [ej,aba hin hj h6]; exact h6),ej,aba hin hj h6]
       ·have h6:=aho ht40;refine ga aat ?_;exact gK1 hK1 (i + 1) ⟨hin,fun j h9=>by rcases lt_or_ge j i with g | g; exact hj j g; (have:j = i:=by omega); subst this; exact h6⟩
      ·have hin:=aan hi ht33;subst hin;have ejz:ase l = 0:=ej.trans (ae0 hj);have e0':liE l = a0b l:=by rw [e0,if_neg (by rw [h4]; simp),if_neg (by rw [ejz]; simp)]
       refine gl ?_;refine gC (fun ht45=>?_) (fun ht45=>?_)
       ·have h6:2 < l.drivers.length:=an2 ht45;refine gE1 ?_;rw [e0']; unfold a0b; rw [if_pos h6]; rfl
       ·have h6:l.drivers.length <= 2:=apu ht45;have ed:a0b l = aej l.drivers.length (drE l):=by unfold a0b; rw [if_neg oz]
        refine gL1 [1] [1] (fun (k:Nat)=>[(6,some (i64 k))]) (fun _=>[]) (fun k=>k <= l.drivers.length /\ ∀ j,j < k -> drE l j = 0) (fun k=>l.drivers.length - k) 0 ⟨zero_le _,fun j h=>by omega⟩ ?_;rintro k ⟨hk,hkj⟩ K2 hK2;refine gl ?_;refine gC (fun ht50=>?_) (fun ht50=>?_)
        ·have hkn:=aa9 ht50;refine gc (axi l hl k hkn h6) ?_;refine gC (fun ht57=>?_) (fun ht57=>?_)
         ·have h7:=ahv ht57;refine gE1 ?_;rw [e0',ed,aba hkn hkj h7]
         ·have h7:=aho ht57;refine ga aat ?_;exact gK1 hK2 (k + 1) ⟨hkn,fun j h9=>by rcases lt_or_ge j k with g | g; exact hkj j g; (have:j = k:=by omega); subst this; exact h7⟩
        ·have hkn:=aan hk ht50;subst hkn;refine gE1 ?_;rw [e0',ed,ae0 hkj]; rfl
end Go.Lw
namespace Go.Lw
open Go.Proofs
theorem amc (rs xs:List (List Rt)) (w m:Nat) (hrs:apq rs) (hxs:apq xs) (hrl:rs.length <= 100) (hxl:xs.length <= 100):FnC prog 22 [ahu rs, i64 w, i64 m, .lst 1 (xs.map nR)] (bl (alt w m (rs ++ xs))):=by
 obtain ⟨l,hl⟩:∃ l,l = rs ++ xs:=⟨_,rfl⟩
 have hlo:apq l:=by rw [hl]; exact hrs.app hxs
 have hll:l.length <= 200:=by rw [hl,length_append]; omega
 have hml:rs.map nR ++ xs.map nR = l.map nR:=by rw [hl,map_append]
 rw [<- hl];refine gF0 func22 ?_;refine gs (acy T34 rfl T46 rfl rfl rfl) ?_;refine gs (aa0 (.tmp rfl) rfl rfl (.tmp rfl) T34 rfl T46 rfl rfl (by simp only [length_map]; omega) rfl rfl) ?_;refine gs (aep (.tmp rfl) rfl (by simp) (.tmp rfl) T34 rfl T46 rfl rfl (by simp only [length_map]; omega) rfl rfl) ?_;refine ge rfl ?_;refine gL1 [1,2] [] (fun (i:Nat)=>[(18,some (.lst 1 (l.map nR))),(19,some (i64 l.length)),(20,some (i64 i))]) (fun _=>[]) (fun i=>i <= l.length /\ (l.take i).all (anl w m) = true) (fun i=>l.length - i) 0 ⟨zero_le _,rfl⟩ ?_ (h1:=(.cons rfl (Sub.of (congrArg (AV.lst 1) hml)) (.cons rfl (Sub.int (by rw [nil_append,hml,length_map])) (.k .nil))));rintro i ⟨hi,hj⟩ K1 hK1;refine gC (fun ht21=>?_) (fun ht21=>?_)
 ·have hin:=aa9 ht21;obtain ⟨x,hx⟩:=ab5 hin;have hxo:=hlo x (mem_of_getElem? hx);have hxl:=hxo.2;refine gi (aag hx) ?_;refine gl ?_;refine gC (fun ht27=>?_) (fun ht27=>?_)
  ·have h1:=an2 ht27;refine gE1 ?_;rw [alt,ajf hx (by unfold anl; rw [decide_eq_false oz]; rfl)]; rfl
  ·have h1:x.length <= m:=apu ht27;refine gl ?_;refine gL1 [1,2,18,19,20,28,29] [] (fun (k:Nat)=>[(30,some (i64 k))]) (fun _=>[]) (fun k=>k <= x.length /\ (x.take k).all (fun r=>decide (r.num.length <= w /\ r.den.length <= w)) = true) (fun k=>x.length - k) 0 ⟨zero_le _,rfl⟩ ?_;rintro k ⟨hk,hkj⟩ K2 hK2;refine gC (fun ht31=>?_) (fun ht31=>?_)
   ·have hkn:=aa9 ht31;obtain ⟨r,hr⟩:=ab5 hkn;refine gi (aag hr) ?_;refine gl ?_;refine glG ?_;refine gC (fun ht45=>?_) (fun ht45=>?_)
    ·have h2:¬ (r.num.length <= w /\ r.den.length <= w):=bo6 ht45;refine gE1 ?_;rw [alt,ajf hx (by unfold anl; rw [ajf hr (decide_eq_false h2),Bool.and_false])]; rfl
    ·have h2:r.num.length <= w /\ r.den.length <= w:=bo9 ht45;refine ga aat ?_;exact gK1 hK2 (k + 1) ⟨hkn,ans hkj hr (decide_eq_true h2)⟩
   ·have hkn:=aan hk ht31;refine ga aat ?_;exact gK1 hK1 (i + 1) ⟨hin,ans hj hx (by unfold anl; rw [decide_eq_true h1,arp hkn hkj]; rfl)⟩
 ·have hin:=aan hi ht21;refine gE1 ?_;rw [alt,arp hin hj]; rfl
theorem amf (rs xs:List (List Rt)) (hrs:apq rs) (hxs:apq xs) (hrl:rs.length <= 281474976710656) (hxl:xs.length <= 100):FnC prog 8 [ahu rs, .lst 1 (xs.map nR)] (bl (ahc rs xs)):=by
 refine gF0 func8 ?_;refine gl ?_;refine gC (fun ht9=>?_) (fun ht9=>?_)
 ·have h1:rs.length <= 1 \/ (5 < rs.length /\ rs.length <= 8):=bq1 ht9;refine gc (amc rs xs 3 40 hrs hxs oz hxl) ?_;refine gE1 ?_;unfold ahc; rw [if_pos h1]
 ·have h1:¬ (rs.length <= 1 \/ (5 < rs.length /\ rs.length <= 8)):=bqh ht9;refine gC (fun ht23=>?_) (fun ht23=>?_)
  ·have h2 : rs.length = 2 := by have := aco ht23; omega
   refine gc (amc rs xs 1 40 hrs hxs oz hxl) ?_;refine gE1 ?_;unfold ahc; rw [if_neg h1,if_pos h2]
  ·have h2 : ¬ rs.length = 2 := by have := ac5 ht23; omega
   refine gC (fun ht29=>?_) (fun ht29=>?_)
   ·have h3 : rs.length = 3 := by have := aco ht29; omega
    refine gc (amc rs xs 1 4 hrs hxs oz hxl) ?_;refine gE1 ?_;unfold ahc; rw [if_neg h1,if_neg h2,if_pos h3]
   ·have h3 : ¬ rs.length = 3 := by have := ac5 ht29; omega
    refine gE1 ?_;unfold ahc; rw [if_neg h1,if_neg h2,if_neg h3]; rfl
theorem a1s (l:Li) (hl:l.okw):FnC prog 6 [l.av] (bl (liB l)):=by
 have hbl:=hl.lb;refine gF0 func6 ?_;refine gl ?_;refine gL1 [1,8,9] [1] (fun (i:Nat)=>[(10,some (i64 i))]) (fun _=>[]) (fun i=>i <= l.bodies.length /\ (l.bodies.take i).all bdB = true) (fun i=>l.bodies.length - i) 0 ⟨zero_le _,rfl⟩ ?_;rintro i ⟨hi,hj⟩ K1 hK1;refine gC (fun ht11=>?_) (fun ht11=>?_)
 ·have hin:=aa9 ht11;obtain ⟨b,hb⟩:=ab5 hin;refine gi (aag hb) ?_;refine gl ?_;refine gC (fun ht17=>?_) (fun ht17=>?_)
  ·have h1:30 < b.pts.length:=an2 ht17;refine gE1 ?_;unfold liB; rw [ajf hb (by unfold bdB; rw [decide_eq_false oz]; rfl)]; rfl
  ·have h1:b.pts.length <= 30:=apu ht17;refine gl ?_;refine gL1 [1,8,9,10,19,20] [1] (fun (k:Nat)=>[(21,some (i64 k))]) (fun _=>[]) (fun k=>k <= b.pts.length /\ (b.pts.take k).all mkB = true) (fun k=>b.pts.length - k) 0 ⟨zero_le _,rfl⟩ ?_;rintro k ⟨hk,hkj⟩ K2 hK2;refine gC (fun ht22=>?_) (fun ht22=>?_)
   ·have hkn:=aa9 ht22;obtain ⟨p,hp⟩:=ab5 hkn;refine gi (aag hp) ?_;refine gl ?_;refine glG ?_;refine glG ?_;refine glG ?_;refine gC (fun ht50=>?_) (fun ht50=>?_)
    ·have h2:mkB p = false:=bk9 ht50;refine gE1 ?_;unfold liB; rw [ajf hb (by unfold bdB; rw [ajf hp h2,Bool.and_false])]; rfl
    ·have h2:mkB p = true:=bl7 ht50;refine ga aat ?_;exact gK1 hK2 (k + 1) ⟨hkn,ans hkj hp h2⟩
   ·have hkn:=aan hk ht22;refine ga aat ?_;exact gK1 hK1 (i + 1) ⟨hin,ans hj hb (by unfold bdB; rw [decide_eq_true h1,arp hkn hkj]; rfl)⟩
 ·have hin:=aan hi ht11;refine gl ?_;refine glG ?_;refine glG ?_;refine gE1 ?_;exact congrArg bl (bji (arp hin hj))
end Go.Lw
namespace Go.Lw
open Go.Proofs
def at2 (g:Gr) (j:Jt) (q:Nat):Int:=if q = 0 then -1 else if q = 1 then (if g.bodies.contains j.b = true then -1 else j.b) else anc g j
theorem a2i {g:Gr} {j:Jt} {q:Nat} {b:Int} (hb:[j.b, j.a][q]? = some b):(if g.bodies.contains b = true then at2 g j q else b) = at2 g j (q + 1):=by
 match q,hb with
 | 0,hb=>cases hb; rfl
 | 1, hb =>
  cases hb;show (if g.bodies.contains j.a = true then (if g.bodies.contains j.b = true then -1 else j.b) else j.a) = anc g j;rfl
theorem avg {xs:List Int} {p:Nat} {x b:Int} (h:xs[p]? = some x):cond ((xs.take p).contains b) true (aaa .eql x b) = (xs.take (p + 1)).contains b:=by
 rw [aaj h,aon,aop,List.contains_eq_any_beq,List.contains_eq_any_beq,List.any_append,List.any_cons,List.any_nil,Bool.or_false];congr 1
 by_cases h1:x = b
 ·subst h1; simp
 ·rw [decide_eq_false h1]
  symm
  exact beq_false_of_ne (fun e=>h1 e.symm)
theorem avo (l:Li) (hl:l.ok) (g:Gr) (hg:GrOk l g):FnC prog 96 [l.av, g.av] (.tup [.lst 1 ((ajx l g).map i64), i64 0]):=by
 have hlb:=hg.lb;have hlj:=hg.lj;have hjl:=hl.lj;refine gF0 func96 ?_;refine gl ?_;refine gL1 [2,3,18,19] [2,3] (fun (i:Nat)=>[(20,some (i64 i))]) (fun _=>[]) (fun i=>i <= g.joints.length) (fun i=>g.joints.length - i) 0 (zero_le _) ?_;rintro i hi K1 hK1;refine gC (fun ht21=>?_) (fun ht21=>?_)
 ·have hin:=aa9 ht21;obtain ⟨z,hz⟩:=ab5 hin;obtain ⟨z0,z1⟩:=hg.j z (mem_of_getElem? hz);refine gi (aag hz) ?_;refine glG ?_;refine gC (fun ht32=>?_) (fun ht32=>?_) (st1:=(5,0))
  ·(rw [bf8 z0 z1] at ht32; cases ht32)
  ·refine ga aat ?_;exact gK1 hK1 (i + 1) hin
 ·have hin:=aan hi ht21;refine gl ?_;refine gW ((Wk.virt 900 1 rfl).trans <| Wk.of (sl:=[(2,some (.ptr 2 0)),(3,some (.ptr 3 0)),(8,some (.ms 900 1 0 0)),(35,some (.lst 1 (g.joints.map i64))),(36,some (i64 g.joints.length)),(37,some (i64 0))]) (hp:=[(2,some (.box l.av.cells)),(3,some (.box g.av.cells)),(900,some (.row 1 []))]) (.k (.k (.cons rfl (Sub.nilMs _ _ _) (.k (.k (.k .nil)))))) (.k (.k (.k .nil)))) ?_;refine gL1 [2,3,35,36] [2,3] (fun (k:Nat)=>[(8,some (.ms 900 1 0 k)),(37,some (i64 k))]) (fun k=>[(900,some (.row 1 (((ajx l g).take k).map i64)))]) (fun k=>k <= g.joints.length) (fun k=>g.joints.length - k) 0 (zero_le _) ?_;rintro k hk K2 hK2;refine gC (fun ht38=>?_) (fun ht38=>?_) (st2:=(26,0))
  ·have hkn:=aa9 ht38;obtain ⟨z,hz⟩:=ab5 hkn;obtain ⟨z0,z1⟩:=hg.j z (mem_of_getElem? hz);obtain ⟨j,hj⟩:∃ j,l.joints[z.toNat]? = some j:=ab5 oz;have hlt:(((ajx l g).take k).map i64).length = k:=by rw [length_map,length_take,ah8]; omega
   refine gi (aag hz) ?_;refine gi (afj (n:=z.toNat) oz hj) ?_;refine gi (afj (n:=z.toNat) oz hj) ?_;refine ge rfl ?_;refine gD ?_;refine gL1 [2,3,35,36,37,53,54] [2,3] (fun (q:Nat)=>[(8,some (.ms 900 1 0 k)),(11,some (i64 (at2 g j q))),(55,some (i64 q))]) (fun _=>[(900,some (.row 1 (((ajx l g).take k).map i64)))]) (fun q=>q <= 2) (fun q=>2 - q) 0 (zero_le _) ?_;rintro q hq K3 hK3;refine gC (fun ht56=>?_) (fun ht56=>?_)
   ·have hqn:q < 2:=aa9 (b:=2) ht56;obtain ⟨b,hb⟩:∃ b,[j.b,j.a][q]? = some b:=ab5 hqn;refine gi (show [i64 j.b,i64 j.a][(q:Int).toNat]? = some (i64 b) by have:=aag (f:=i64) hb; exact this) ?_;refine gl ?_;refine gL1 [2,3,35,36,37,53,54,11,55,13,60,61] [2,3,900] (fun (p:Nat)=>[(8,some (.ms 900 1 0 k)),(14,some (bl ((g.bodies.take p).contains b))),(62,some (i64 p))]) (fun _=>[]) (fun p=>p <= g.bodies.length) (fun p=>g.bodies.length - p) 0 (zero_le _) ?_;rintro p hp K4 hK4;refine gC (fun ht63=>?_) (fun ht63=>?_)
    ·have hpn:=aa9 ht63;obtain ⟨x,hx⟩:=ab5 hpn;refine gi (aag hx) ?_;refine ga aat ?_;exact gK1 hK4 (p + 1) hpn (hw:=Wk.of (.k (.cons rfl (Sub.of (congrArg bl (avg hx))) (.k (.k (.k (.k (.k (.k (.k (.k (.k (.k (.k (.k (.k .nil))))))))))))))) (.k (.k (.k .nil))))
    ·have hpn:=aan hp ht63;subst hpn;have hall:g.bodies.take g.bodies.length = g.bodies:=take_length;refine gC (fun ht74=>?_) (fun ht74=>?_)
     ·have h2 : g.bodies.contains b = false := by rw [hall] at ht74; exact af8 ht74
      have h3:=a2i (g:=g) hb;rw [if_neg (by rw [h2]; simp)] at h3;refine ga aat ?_;exact gK1 hK3 (q + 1) hqn (hw:=Wk.of (.k (.cons rfl (Sub.of (congrArg i64 h3)) (.k (.k (.k (.k (.k (.k (.k (.k .nil)))))))))) (.k (.k (.k .nil))))
     ·have h2 : g.bodies.contains b = true := by rw [hall] at ht74; exact af1 ht74
      have h3:=a2i (g:=g) hb;rw [if_pos h2] at h3;refine ga aat ?_;exact gK1 hK3 (q + 1) hqn (hw:=Wk.of (.k (.cons rfl (Sub.of (congrArg i64 h3)) (.k (.k (.k (.k (.k (.k (.k (.k .nil)))))))))) (.k (.k (.k .nil))))
   ·have hqn:q = 2:=aan (b:=2) hq ht56;subst hqn;refine gs (aa0 (.tmp rfl) rfl hlt.symm (.tmp rfl) T38 rfl T3 rfl rfl (by simp only [length_cons,length_nil]; omega) rfl rfl) ?_ (25,0);refine gW (Wk.of (sl:=[(2,some (.ptr 2 0)),(3,some (.ptr 3 0)),(8,some (.ms 80 1 0 (k + 1))),(35,some (.lst 1 (g.joints.map i64))),(36,some (i64 g.joints.length)),(37,some (i64 k))]) (hp:=[(2,some (.box l.av.cells)),(3,some (.box g.av.cells)),(80,some (.row 1 (((ajx l g).take (k + 1)).map i64)))]) aa6 (.k (.k (.cons rfl (BlkSub.of (congrArg (Blk.row 1) (ap6 hz hj rfl))) .nil)))) ?_ (25,0);refine gW (Wk.rekey (k:=80) (d:=900) rfl rfl) ?_;refine ga aat ?_;exact gK1 hK2 (k + 1) hkn
  ·have hkn:=aan hk ht38;subst hkn;refine gW (Wk.of (sl:=[(8,some (.ms 900 1 0 g.joints.length))]) (hp:=[(900,some (.row 1 ((ajx l g).map i64)))]) aa6 (.cons rfl (BlkSub.of (by rw [take_of_length_le (by rw [ah8]; exact le_refl _)])) .nil)) ?_ (26,0);refine gW ((Wk.freeze (k:=900) rfl).trans (Wk.of (sl:=[(8,some (.lst 1 ((ajx l g).map i64)))]) (hp:=[]) (.cons rfl (Sub.of (abq (by rw [length_map,ah8]))) .nil) .nil)) ?_;refine gE2 ?_
   first | rfl | (simp; done)
end Go.Lw
namespace Go.Lw
open Go.Proofs
theorem a07:FnC prog 11 [.v .nilIface] (i64 0):=by
 refine gF0 func11 ?_;refine gC (fun ht6=>?_) (fun ht6=>?_) (st2:=(77777,0))
 ·refine gE1 ?_
  first | rfl | (simp; done)
 ·cases ht6
theorem a0s (n:Int):FnC prog 11 [.v (.iface 90 (.int .i64 n))] (i64 n):=by
 refine gF0 func11 ?_;refine gC (fun ht6=>?_) (fun ht6=>?_) (st1:=(2,0))
 ·cases ht6
 ·refine gs (bd9 (.tmp rfl) T90 rfl rfl) ?_;refine gC (fun ht13=>?_) (fun ht13=>?_) (st1:=(5,0))
  ·cases ht13
  ·refine gE1 ?_;rfl
theorem aua (e:Nat):FnC prog 11 [ai2 e] (i64 e):=by
 cases e with
 | zero=>exact a07
 | succ e=>exact a0s _
end Go.Lw
namespace Go.Lw
open Go.Proofs
theorem bhr (rs:List (List Rt)):abh rs [] = aer rs:=by
 unfold abh
 by_cases h:aer rs = 0
 ·rw [if_neg oz,h]; rfl
 ·rw [if_pos h]
end Go.Lw
namespace Go.Lw
open Go.Proofs
theorem akz {l:Li} (hl:liE l = 0):(ack l).length <= 8:=by
 unfold ack; split
 ·exact (am2 hl).2
 ·exact zero_le _
end Go.Lw
namespace Go.Lw
open Go.Proofs
abbrev qN (p:Rat × Rat):AV:=ptA (sh 0 (p.1:Rat)) (sh 0 (p.2:Rat))
abbrev eN {ts:LL} (p:Et ts × Et ts):AV:=ptA (sX p.1) (sX p.2)
theorem ahf {l:Li} (hl:l.ok) (hli:liE l = 0) {body pt:Int} (h1:inB body l.bodies.length = true) (h2:inB pt (aen l body).length = true):FnC prog 99 [l.av, i64 body, i64 pt] (qN (mkQ l body pt)):=by
 obtain ⟨n,k,bd,m,mp⟩:=bd3 hl hli h1 h2;have hn:=mp.hn;have hk:=mp.hk;have hlb:=hl.lb;have ho:=a3r (mp.sm.x.qs oz) (mp.sm.y.qs oz);have ho:FnC prog 205 [m.x.av,m.y.av] (qN (mkQ l body pt)):=by rw [mp.ex,mp.ey]; exact ho
 refine gF0 func99 ?_;refine gi (afj (n:=n) hn mp.gbd) ?_;refine gi (afj (n:=k) hk mp.gm) ?_;refine gc ho ?_;refine gE1 ?_;rfl
theorem am8 {l:Li} {a:As} (D:DyR l a) {body pt:Int} (h1:inB body l.bodies.length = true) (h2:inB pt (aen l body).length = true) (hb:Pd a body) :
  FnC prog 98 [l.av,a.av,i64 body,i64 pt] (eN (plE l a body pt)):=by
 obtain ⟨n,k,bd,m,b,hp⟩:=bhg D.hl D.li D.al D.hc h1 h2 hb;obtain ⟨tw,hta⟩:=abr D.al.tr D.hc;have kb:=kb4 tw.three;have hlm:=apw (llq a.rs).length;have hlb:=D.hl.lb;have hbl:=D.al.bl;show FnC prog _ _ (ptA (sh (llq a.rs).length (bjq l a body pt).1) (sh (llq a.rs).length (bjq l a body pt).2));rw [hp.eq];have hn:=hp.mp.hn;have hk:=hp.mp.hk
 have hat:FnC prog 204 [ahu a.rs, b.av, m.x.av, m.y.av] (ptA (sh (llq a.rs).length (atP (llq a.rs) b m).1) (sh (llq a.rs).length (atP (llq a.rs) b m).2)):=by
  rw [hta,hp.av,hp.mp.ex,hp.mp.ey];have h9:=bfk tw hp.ok.c hp.ok.s hp.ok.x hp.ok.y (hp.mp.sm.x.mono (f:=4000) oz) (hp.mp.sm.y.mono (f:=4000) oz) oz;unfold atP;rw [hp.mp.ex,hp.mp.ey,agm,agm];exact h9
 refine gF0 func98 ?_;refine gi (afj (n:=n) hn hp.mp.gbd) ?_;refine gi (afj (n:=k) hk hp.mp.gm) ?_;refine gi (afj (n:=n) hn hp.gb) ?_;refine gc hat ?_;refine gD ?_;refine gE1 ?_;rfl
theorem ag8 (j:Jt) (b:Int):FnC prog 97 [j.av, i64 b] (.tup [i64 (sdP j b), i64 (sdB j b), i64 (sdQ j b)]):=by
 refine gF0 func97 ?_;refine gC (fun ht10=>?_) (fun ht10=>?_)
 ·have e:j.a = b:=aco ht10;refine gD ?_;refine gE3 ?_;unfold sdP sdB sdQ; rw [if_pos e,if_pos e,if_pos e]
 ·have e:j.a ≠ b:=ac5 ht10;refine gD ?_;refine gE3 ?_;unfold sdP sdB sdQ; rw [if_neg e,if_neg e,if_neg e]
theorem ahq {l:Li} {a:As} (D:DyR l a) {n:Nat} {j:Jt} (hj:l.joints[n]? = some j) {b:Int} (h:PinP l a j b):FnC prog 98 [l.av, a.av, i64 (sdB j b), i64 (sdQ j b)] (eN (aa1 l a j b)):=by
 obtain ⟨i1,i2,i3,i4,_⟩:=afv D.li hj;unfold aa1 sdB sdQ;rcases h.tie with ⟨e,hb⟩ | ⟨e,e2,hb⟩
 ·rw [if_pos e,if_pos e,if_pos e]; exact am8 D i2 i4 hb
 ·rw [if_neg e,if_neg e,if_neg e]; exact am8 D i1 i3 hb
theorem aex {l:Li} (hl:l.ok) (hli:liE l = 0) {n:Nat} {j:Jt} (hj:l.joints[n]? = some j) {b:Int} (h:j.a = b \/ j.b = b):FnC prog 99 [l.av, i64 b, i64 (sdP j b)] (qN (aak l j b)):=by
 obtain ⟨i1,i2,i3,i4,_⟩:=afv hli hj;unfold aak sdP
 by_cases e:j.a = b
 ·rw [if_pos e,if_pos e]; subst e; exact ahf hl hli i1 i3
 ·rw [if_neg e, if_neg e];rcases h with h | h
  ·exact absurd h e
  ·subst h; exact ahf hl hli i2 i4
theorem a0o {l:Li} (hl:l.ok) (hli:liE l = 0) {n:Nat} {j:Jt} (hj:l.joints[n]? = some j) {i k:Int} (ne:i ≠ k) (t1:j.a = i \/ j.b = i) (t2:j.a = k \/ j.b = k):FnC prog 99 [l.av, i64 k, i64 (sdQ j i)] (qN (aak l j k)):=by
 obtain ⟨i1,i2,i3,i4,_⟩:=afv hli hj;unfold aak sdQ
 by_cases e:j.a = i
 ·rw [if_pos e, if_neg oz];obtain rfl:j.b = k:=by omega
  exact ahf hl hli i2 i4
 ·rw [if_neg e, if_pos oz];obtain rfl:j.a = k:=by omega
  exact ahf hl hli i1 i3
abbrev nl:AV:=.v (.slice none 0 0)
abbrev z2C:List AV:=[nl,nl]
abbrev qNC (p:Rat × Rat):List AV:=[nA (sh 0 (p.1:Rat)),nA (sh 0 (p.2:Rat))]
abbrev eNC {ts:LL} (p:Et ts × Et ts):List AV:=[nA (sX p.1),nA (sX p.2)]
abbrev v1C (l:Li) (a:As) (i k:Int) (j0 j1 j2:Jt):List AV :=
  [i64 1, i64 i, i64 k] ++ (eNC (aa1 l a j0 i) ++ (eNC (aa1 l a j1 k) ++ (qNC (aak l j0 i) ++ (qNC (aak l j1 k) ++ (qNC (aak l j2 i) ++ (qNC (aak l j2 k) ++ (z2C ++ (z2C ++
    ([nA (sX (d2E (qv (aak l j2 i)) (qv (aak l j0 i)):Et (llq a.rs))),nA (sX (d2E (qv (aak l j2 k)) (qv (aak l j1 k)):Et (llq a.rs)))] ++ (z2C ++ [nl,nl,nA (sX (d2E (aa1 l a j1 k) (aa1 l a j0 i)))]))))))))))
abbrev v2C (l:Li) (a:As) (i:Int) (j0 j:Jt):List AV :=
  [i64 2, i64 i, i64 0] ++ (eNC (aa1 l a j0 i) ++ (z2C ++ (qNC (aak l j0 i) ++ (z2C ++ (qNC (mkQ l i j.point) ++ (z2C ++ (eNC (plE l a j.b j.on) ++ (eNC (plE l a j.b j.to) ++
    ([nA (sX (d2E (qv (mkQ l i j.point)) (qv (aak l j0 i)):Et (llq a.rs))),nl] ++ (eNC (sbE (plE l a j.b j.to) (plE l a j.b j.on)) ++ [nl,nl,nl]))))))))))
abbrev v3C (l:Li) (a:As) (i:Int) (j0 j:Jt):List AV :=
  [i64 3, i64 i, i64 0] ++ (eNC (aa1 l a j0 i) ++ (eNC (plE l a j.a j.point) ++ (qNC (aak l j0 i) ++ (z2C ++ (z2C ++ (z2C ++ (qNC (mkQ l i j.on) ++ (qNC (mkQ l i j.to) ++
    ([nl, nl] ++ (eNC (sbE (qv (mkQ l i j.to)) (qv (mkQ l i j.on)):Et (llq a.rs) × Et (llq a.rs)) ++
      [nA (sX (a58 (sbE (qv (mkQ l i j.to)) (qv (mkQ l i j.on))) (sbE (qv (mkQ l i j.on)) (qv (aak l j0 i))):Et (llq a.rs))),nA (sX (azw (sbE (qv (mkQ l i j.to)) (qv (mkQ l i j.on))) (sbE (qv (mkQ l i j.to)) (qv (mkQ l i j.on))):Et (llq a.rs))),nA (sX (d2E (plE l a j.a j.point) (aa1 l a j0 i)))]))))))))))
abbrev v0C (l:Li) (a:As) (i:Int) (j0:Jt):List AV :=
  [i64 0,i64 i,i64 0] ++ (eNC (aa1 l a j0 i) ++ (z2C ++ (qNC (aak l j0 i) ++ (z2C ++ (z2C ++ (z2C ++ (z2C ++ (z2C ++ ([nl,nl] ++ (z2C ++ [nl,nl,nl]))))))))))
section
variable {ts:LL} {a b a2 b2:List Rat} {x y x2 y2:Et ts}
theorem ap3 {u k w v w' v' w2 v2 w3 v3 : Nat} [c : Ct ts u k] [ha : Zl ts u k a x w v] [hb : Zl ts u k b y w' v'] [ha2 : Zl ts u k a2 x2 w2 v2] [hb2 : Zl ts u k b2 y2 w3 v3] (h : 2 * (w + v + (w' + v') + (w2 + v2 + (w3 + v3))) + 4 <= 2500 := by decide) :
  FnC prog 100 [aa5 ts,ptA a b,ptA a2 b2] (nA (sX (d2E (x,y) (x2,y2)))):=by
 haveI:=ha.zu;haveI:=hb.zu;haveI:=ha2.zu;haveI:=hb2.zu;have h1:=apd (ts:=ts) (a:=a) (b:=b) (a2:=a2) (b2:=b2) oz;have h2:=a34 (ts:=ts) (a:=sX (x - x2)) (b:=sX (y - y2)) (a2:=sX (x - x2)) (b2:=sX (y - y2)) oz;refine gF0 func100 ?_;refine gc h1 ?_;refine gc h2 ?_;refine gE1 ?_;rfl
end
theorem ay7 {ts:LL} (c:Ct ts 4000 300000) {p:Rat × Rat} (hp:Sm 1000 p):Zl ts 4000 300000 (sh 0 (p.1:Rat)) (qE p.1) 1 0 /\ Zl ts 4000 300000 (sh 0 (p.2:Rat)) (qE p.2) 1 0:=by
 haveI:=c;haveI:=aqn (w:=1) (hp.x) oz;haveI:=aqn (w:=1) (hp.y) oz;exact ⟨inferInstance,inferInstance⟩
theorem bj8 {a:As} {l:Li} (D:DyR l a) {p q:Rat × Rat} (hp:Sm 1000 p) (hq:Sm 1000 q):FnC prog 100 [ahu a.rs, qN p, qN q] (nA (sX (d2E (qv p) (qv q):Et (llq a.rs)))):=by
 haveI c:=D.al.ct D.hc;obtain ⟨z1,z2⟩:=ay7 c hp;obtain ⟨z3,z4⟩:=ay7 c hq;have h:=ap3 (ts:=llq a.rs) (u:=4000) (k:=300000) (a:=sh 0 (p.1:Rat)) (b:=sh 0 (p.2:Rat)) (a2:=sh 0 (q.1:Rat)) (b2:=sh 0 (q.2:Rat)) (by decide);rw [<- (abr D.al.tr D.hc).2] at h;exact h
theorem boh {a:As} {l:Li} (D:DyR l a) {p q:Et (llq a.rs) × Et (llq a.rs)} (h1:Zu 4000 300000 p.1 40 40) (h2:Zu 4000 300000 p.2 40 40) (h3:Zu 4000 300000 q.1 40 40) (h4:Zu 4000 300000 q.2 40 40) :
  FnC prog 100 [ahu a.rs,eN p,eN q] (nA (sX (d2E p q))):=by
 haveI c:=D.al.ct D.hc;haveI:=h1; haveI:=h2; haveI:=h3; haveI:=h4
 have h:=ap3 (ts:=llq a.rs) (u:=4000) (k:=300000) (a:=sX p.1) (b:=sX p.2) (a2:=sX q.1) (b2:=sX q.2) (by decide);rw [<- (abr D.al.tr D.hc).2] at h;exact h
theorem alx {l:Li} {a:As} {j:Jt} {b:Int} (p0:PinP l a j b):j.a = b \/ j.b = b:=by rcases p0.tie with h9 | h9; exact .inl h9.1; exact .inr h9.2.1
theorem a43 {l:Li} {a:As} (D:DyR l a) {n:Nat} {i k z0 z1 z2:Int} {j0 j1 j2:Jt} (hG:(ack l)[n]? = some ⟨1, [i, k], [z0, z1, z2], 0⟩) (hgo:GrOk l ⟨1, [i, k], [z0, z1, z2], 0⟩) (P:RrrP l a ⟨1, [i, k], [z0, z1, z2], 0⟩ i k z0 z1 z2 j0 j1 j2) (ne:i ≠ k) :
  FnC prog 33 [l.av,i64 n,a.av] (.agg (v1C l a i k j0 j1 j2)):=by
 have hsl:=akz D.li;have hlj:=D.hl.lj;have hj0:=(hgo.j z0 (by simp)).1;have hj1:=(hgo.j z1 (by simp)).1;have hj2:=(hgo.j z2 (by simp)).1;have q0:=ach D.hl D.li P.h0 (alx P.p0);have q1:=ach D.hl D.li P.h1 (alx P.p1);have q2:=ach D.hl D.li P.h2 P.t1;have q3:=ach D.hl D.li P.h2 P.t2;obtain ⟨y1,y2⟩:=aek D.hl D.li D.al D.hc P.h0 P.p0;obtain ⟨y3,y4⟩:=aek D.hl D.li D.al D.hc P.h1 P.p1;refine gF0 func33 ?_;refine gc (ahn l D.hl D.li) ?_;refine gi (aag hG) ?_;refine gi (rfl) ?_;refine gD ?_;refine gi (rfl) ?_;refine gi (afj (n:=z0.toNat) oz P.h0) ?_;refine gc (ag8 j0 i) ?_;refine gD ?_;refine gc (ahq D P.h0 P.p0) ?_;refine gc (aex D.hl D.li P.h0 (alx P.p0)) ?_;refine gD ?_;refine gC (fun ht64=>?_) (fun ht64=>?_) (st2:=(16,0))
 ·refine gi (rfl) ?_;refine gi (rfl) ?_;refine gi (afj (n:=z1.toNat) oz P.h1) ?_;refine gc (ag8 j1 k) ?_;refine gD ?_;refine gc (ahq D P.h1 P.p1) ?_;refine gc (aex D.hl D.li P.h1 (alx P.p1)) ?_;refine gD ?_;refine gi (rfl) ?_;refine gi (afj (n:=z2.toNat) oz P.h2) ?_;refine gc (ag8 j2 i) ?_;refine gD ?_;refine gc (aex D.hl D.li P.h2 P.t1) ?_;refine gc (a0o D.hl D.li P.h2 ne P.t1 P.t2) ?_;refine gD ?_;refine gc (bj8 D q2 q0) ?_;refine gc (bj8 D q3 q1) ?_;refine gD ?_;refine gc (boh D y3 y4 y1 y2) ?_;refine gE1 ?_;rfl
 ·cases ht64
theorem a4g {l:Li} {a:As} (D:DyR l a) {n:Nat} {i z0 z1:Int} {j0 j:Jt} (hG:(ack l)[n]? = some ⟨2, [i], [z0, z1], 0⟩) (hgo:GrOk l ⟨2, [i], [z0, z1], 0⟩) (P:SlP l a ⟨2, [i], [z0, z1], 0⟩ 2 i z0 z1 j0 j) (ha:j.a = i) (hb:Pd a j.b) :
  FnC prog 33 [l.av,i64 n,a.av] (.agg (v2C l a i j0 j)):=by
 have hsl:=akz D.li;have hlj:=D.hl.lj;have hj0:=(hgo.j z0 (by simp)).1;have hj1:=(hgo.j z1 (by simp)).1;have q0:=ach D.hl D.li P.h0 (alx P.p0);obtain ⟨i1,i2,i3,i4,i5⟩:=afv D.li P.h1;have hown:FnC prog 99 [l.av,i64 i,i64 j.point] (qN (mkQ l i j.point)):=by rw [<- ha]; exact ahf D.hl D.li i1 i3
 have q2:Sm 1000 (mkQ l i j.point):=by rw [<- ha]; exact ajg D.hl D.li i1 i3
 obtain ⟨y3,y4⟩:=agu D.hl D.li D.al D.hc i2 (i5 P.hk) hb;obtain ⟨y7,y8⟩:=agu D.hl D.li D.al D.hc i2 i4 hb;haveI c:=D.al.ct D.hc;haveI:=y3; haveI:=y4; haveI:=y7; haveI:=y8
 have hs:=apd (ts:=llq a.rs) (u:=4000) (k:=300000) (a:=sX (plE l a j.b j.to).1) (b:=sX (plE l a j.b j.to).2) (a2:=sX (plE l a j.b j.on).1) (b2:=sX (plE l a j.b j.on).2);rw [<- (abr D.al.tr D.hc).2] at hs;refine gF0 func33 ?_;refine gc (ahn l D.hl D.li) ?_;refine gi (aag hG) ?_;refine gi (rfl) ?_;refine gD ?_;refine gi (rfl) ?_;refine gi (afj (n:=z0.toNat) oz P.h0) ?_;refine gc (ag8 j0 i) ?_;refine gD ?_;refine gc (ahq D P.h0 P.p0) ?_;refine gc (aex D.hl D.li P.h0 (alx P.p0)) ?_;refine gD ?_;refine gC (fun ht64=>?_) (fun ht64=>?_) (st1:=(9,0))
 ·cases ht64
 ·refine gC (fun ht146=>?_) (fun ht146=>?_) (st2:=(21, 0))
  ·refine gi (rfl) ?_;refine gi (afj (n:=z1.toNat) oz P.h1) ?_;refine gD ?_;refine gc (am8 D i2 i4 hb) ?_;refine gc (am8 D i2 (i5 P.hk) hb) ?_;refine gc hown ?_;refine gD ?_;refine gc (bj8 D q2 q0) ?_;refine gc hs ?_;refine gE1 ?_;rfl
  ·cases ht146
theorem a54 {l:Li} {a:As} (D:DyR l a) {n:Nat} {i z0 z1:Int} {j0 j:Jt} (hG:(ack l)[n]? = some ⟨3, [i], [z0, z1], 0⟩) (hgo:GrOk l ⟨3, [i], [z0, z1], 0⟩) (P:SlP l a ⟨3, [i], [z0, z1], 0⟩ 3 i z0 z1 j0 j) (hj:j.b = i) (hb:Pd a j.a) :
  FnC prog 33 [l.av,i64 n,a.av] (.agg (v3C l a i j0 j)):=by
 have hsl:=akz D.li;have hlj:=D.hl.lj;have hj0:=(hgo.j z0 (by simp)).1;have hj1:=(hgo.j z1 (by simp)).1;have q0:=ach D.hl D.li P.h0 (alx P.p0);obtain ⟨i1,i2,i3,i4,i5⟩:=afv D.li P.h1;have ho1:FnC prog 99 [l.av,i64 i,i64 j.on] (qN (mkQ l i j.on)):=by rw [<- hj]; exact ahf D.hl D.li i2 i4
 have ho2:FnC prog 99 [l.av,i64 i,i64 j.to] (qN (mkQ l i j.to)):=by rw [<- hj]; exact ahf D.hl D.li i2 (i5 P.hk)
 have q1:Sm 1000 (mkQ l i j.on):=by rw [<- hj]; exact ajg D.hl D.li i2 i4
 have q2:Sm 1000 (mkQ l i j.to):=by rw [<- hj]; exact ajg D.hl D.li i2 (i5 P.hk)
 obtain ⟨y1,y2⟩:=aek D.hl D.li D.al D.hc P.h0 P.p0;obtain ⟨y3,y4⟩:=agu D.hl D.li D.al D.hc i1 i3 hb;haveI c:=D.al.ct D.hc;obtain ⟨x1,x2⟩:=ay7 c q0;obtain ⟨x3,x4⟩:=ay7 c q1;obtain ⟨x5,x6⟩:=ay7 c q2;haveI:=x1.zu; haveI:=x2.zu; haveI:=x3.zu; haveI:=x4.zu; haveI:=x5.zu; haveI:=x6.zu
 have s1:=apd (ts:=llq a.rs) (u:=4000) (k:=300000) (a:=sh 0 ((mkQ l i j.to).1:Rat)) (b:=sh 0 ((mkQ l i j.to).2:Rat)) (a2:=sh 0 ((mkQ l i j.on).1:Rat)) (b2:=sh 0 ((mkQ l i j.on).2:Rat));have s2:=a34 (ts:=llq a.rs) (u:=4000) (k:=300000) (a:=sX (qE (mkQ l i j.to).1 - qE (mkQ l i j.on).1:Et (llq a.rs))) (b:=sX (qE (mkQ l i j.to).2 - qE (mkQ l i j.on).2:Et (llq a.rs))) (a2:=sX (qE (mkQ l i j.to).1 - qE (mkQ l i j.on).1:Et (llq a.rs))) (b2:=sX (qE (mkQ l i j.to).2 - qE (mkQ l i j.on).2:Et (llq a.rs)));have s3:=apd (ts:=llq a.rs) (u:=4000) (k:=300000) (a:=sh 0 ((mkQ l i j.on).1:Rat)) (b:=sh 0 ((mkQ l i j.on).2:Rat)) (a2:=sh 0 ((aak l j0 i).1:Rat)) (b2:=sh 0 ((aak l j0 i).2:Rat));have s4:=a12 (ts:=llq a.rs) (u:=4000) (k:=300000) (a:=sX (qE (mkQ l i j.to).1 - qE (mkQ l i j.on).1:Et (llq a.rs))) (b:=sX (qE (mkQ l i j.to).2 - qE (mkQ l i j.on).2:Et (llq a.rs))) (a2:=sX (qE (mkQ l i j.on).1 - qE (aak l j0 i).1:Et (llq a.rs))) (b2:=sX (qE (mkQ l i j.on).2 - qE (aak l j0 i).2:Et (llq a.rs)));rw [<- (abr D.al.tr D.hc).2] at s1 s2 s3 s4;refine gF0 func33 ?_;refine gc (ahn l D.hl D.li) ?_;refine gi (aag hG) ?_;refine gi (rfl) ?_;refine gD ?_;refine gi (rfl) ?_;refine gi (afj (n:=z0.toNat) oz P.h0) ?_;refine gc (ag8 j0 i) ?_;refine gD ?_;refine gc (ahq D P.h0 P.p0) ?_;refine gc (aex D.hl D.li P.h0 (alx P.p0)) ?_;refine gD ?_;refine gC (fun ht64=>?_) (fun ht64=>?_) (st1:=(9,0))
 ·cases ht64
 ·refine gC (fun ht146=>?_) (fun ht146=>?_) (st1:=(17, 0))
  ·cases ht146
  ·refine gC (fun ht193=>?_) (fun ht193=>?_) (st2:=(77777, 0))
   ·refine gi (rfl) ?_;refine gi (afj (n:=z1.toNat) oz P.h1) ?_;refine gD ?_;refine gc (am8 D i1 i3 hb) ?_;refine gc ho1 ?_;refine gc ho2 ?_;refine gD ?_;refine gc s1 ?_;refine gc s2 ?_;refine gc s3 ?_;refine gc s4 ?_;refine gD ?_;refine gc (boh D y3 y4 y1 y2) ?_;refine gE1 ?_;rfl
   ·cases ht193
theorem a5e {l:Li} {a:As} (D:DyR l a) {n:Nat} {i z0 d:Int} {j0:Jt} (hG:(ack l)[n]? = some ⟨0, [i], [z0], d⟩) (hgo:GrOk l ⟨0, [i], [z0], d⟩) (h0:l.joints[z0.toNat]? = some j0) (p0:PinP l a j0 i) :
  FnC prog 33 [l.av,i64 n,a.av] (.agg (v0C l a i j0)):=by
 have hsl:=akz D.li;have hlj:=D.hl.lj;have hj0:=(hgo.j z0 (by simp)).1;refine gF0 func33 ?_;refine gc (ahn l D.hl D.li) ?_;refine gi (aag hG) ?_;refine gi (rfl) ?_;refine gD ?_;refine gi (rfl) ?_;refine gi (afj (n:=z0.toNat) oz h0) ?_;refine gc (ag8 j0 i) ?_;refine gD ?_;refine gc (ahq D h0 p0) ?_;refine gc (aex D.hl D.li h0 (alx p0)) ?_;refine gD ?_;refine gC (fun ht64=>?_) (fun ht64=>?_) (st1:=(9,0))
 ·cases ht64
 ·refine gC (fun ht146=>?_) (fun ht146=>?_) (st1:=(17, 0))
  ·cases ht146
  ·refine gC (fun ht193=>?_) (fun ht193=>?_) (st1:=(22, 0))
   ·cases ht193
   ·refine gE1 ?_;rfl
end Go.Lw
namespace Go.Lw
open Go.Proofs
section
variable {ts:LL} {a b c a2 b2 c2:List Rat} {x y z x2 y2 z2:Et ts}
theorem bme [c0:Ct ts 4000 300000] [i1:Zl ts 4000 300000 a x 40 40] [i2:Zl ts 4000 300000 b y 40 40] [i3:Zl ts 4000 300000 c z 3 0] [i4:Zl ts 4000 300000 a2 x2 40 40] [i5:Zl ts 4000 300000 b2 y2 40 40] [i6:Zl ts 4000 300000 c2 z2 3 0] :
  FnC prog 122 [aa5 ts,.agg [nA a,nA b,nA c],.agg [nA a2,nA b2,nA c2]] (nA (sX (ajy (x,y) z (x2,y2) z2))):=by
 have hd:=ap3 (ts:=ts) (u:=4000) (k:=300000) (a:=a) (b:=b) (a2:=a2) (b2:=b2) (by decide);haveI:=i3.zu;haveI:=i6.zu;haveI zd:=bdy c0 i1.zu i2.zu i4.zu i5.zu;haveI q4:Qz 4000 ((4:Int):Rat) 1:=Qz.int (c:=Ct.cx (c:=c0)) (by decide);have m1:=a0a (ts:=ts) (u:=4000) (k:=300000) (a:=c) (b:=sX (d2E (x,y) (x2,y2)));have m2:=amy (ts:=ts) (u:=4000) (k:=300000) (a:=sX (z + d2E (x,y) (x2,y2))) (b:=c2);have m3:=ahx (ts:=ts) (u:=4000) (k:=300000) (a:=c) (b:=sX (d2E (x,y) (x2,y2)));have m4:=ahx (ts:=ts) (u:=4000) (k:=300000) (a:=sh 0 (((4:Int):Rat):Rat)) (b:=sX (z * d2E (x,y) (x2,y2)));have m5:=ahx (ts:=ts) (u:=4000) (k:=300000) (a:=sX (z + d2E (x,y) (x2,y2) - z2)) (b:=sX (z + d2E (x,y) (x2,y2) - z2));have m6:=amy (ts:=ts) (u:=4000) (k:=300000) (a:=sX (qE ((4:Int):Rat) * (z * d2E (x,y) (x2,y2)))) (b:=sX ((z + d2E (x,y) (x2,y2) - z2) * (z + d2E (x,y) (x2,y2) - z2)));refine gF0 func122 ?_;refine gc hd ?_;refine gc m1 ?_;refine gc m2 ?_;refine gD ?_;refine gc (akb 4 oz) ?_;refine gc m3 ?_;refine gc m4 ?_;refine gc m5 ?_;refine gc m6 ?_;refine gD ?_;refine gE1 ?_;rfl
end
theorem bny {ts:LL} (c:Ct ts 4000 300000) {n d g:Et ts} (y1:Zu 4000 300000 n 3 0) (y2:Zu 4000 300000 d 320 327) (y3:Zu 4000 300000 g 3 0) :
  FnC prog 111 [aa5 ts,nA (sX n),nA (sX d)] (nA (sX (n * d))) /\ FnC prog 111 [aa5 ts,nA (sX g),nA (sX g)] (nA (sX (g * g))) /\ FnC prog 110 [aa5 ts,nA (sX (n * d)),nA (sX (g * g))] (nA (sX (n * d - g * g))):=by
 haveI:=c; haveI:=y1; haveI:=y2; haveI:=y3
 have m1:=ahx (ts:=ts) (u:=4000) (k:=300000) (a:=sX n) (b:=sX d);have m2:=ahx (ts:=ts) (u:=4000) (k:=300000) (a:=sX g) (b:=sX g);have m3:=amy (ts:=ts) (u:=4000) (k:=300000) (a:=sX (n * d)) (b:=sX (g * g));exact ⟨m1,m2,m3⟩
theorem a4m {l:Li} {a:As} (D:DyR l a) {i z0 z1:Int} {j0 j:Jt} (P:SlP l a ⟨3, [i], [z0, z1], 0⟩ 3 i z0 z1 j0 j) (hj:j.b = i) (hb:Pd a j.a) :
  FnC prog 113 [ahu a.rs,.agg (v3C l a i j0 j)] (nA (sX (a5x l a ⟨3,[i],[z0,z1],0⟩))):=by
 have q0:=ach D.hl D.li P.h0 (alx P.p0);obtain ⟨i1,i2,i3,i4,i5⟩:=afv D.li P.h1;have q1:Sm 1000 (mkQ l i j.on):=by rw [<- hj]; exact ajg D.hl D.li i2 i4
 have q2:Sm 1000 (mkQ l i j.to):=by rw [<- hj]; exact ajg D.hl D.li i2 (i5 P.hk)
 obtain ⟨y1,y2⟩:=aek D.hl D.li D.al D.hc P.h0 P.p0;obtain ⟨y3,y4⟩:=agu D.hl D.li D.al D.hc i1 i3 hb;haveI c:=D.al.ct D.hc;haveI zd:Zu 4000 300000 (d2E (plE l a j.a j.point) (aa1 l a j0 i)) 320 327:=bdy c y3 y4 y1 y2;have hv:=q2.sub q1;haveI:Qz 4000 (aht (afp (mkQ l i j.to) (mkQ l i j.on)) (afp (mkQ l i j.to) (mkQ l i j.on))) 3:=aqn (hv.dot hv) oz;haveI:Qz 4000 (aty (afp (mkQ l i j.to) (mkQ l i j.on)) (afp (mkQ l i j.on) (aak l j0 i))) 3:=aqn (hv.cross (q1.sub q0)) oz;haveI zn:Zu 4000 300000 (azw (sbE (qv (mkQ l i j.to)) (qv (mkQ l i j.on))) (sbE (qv (mkQ l i j.to)) (qv (mkQ l i j.on))):Et (llq a.rs)) 3 0:=by rw [aju,axr]; exact inferInstance
 haveI zh:Zu 4000 300000 (a58 (sbE (qv (mkQ l i j.to)) (qv (mkQ l i j.on))) (sbE (qv (mkQ l i j.on)) (qv (aak l j0 i))):Et (llq a.rs)) 3 0:=by rw [aju,aju,a2o]; exact inferInstance
 rw [bg0 P];obtain ⟨m1,m2,m3⟩:=bny c zn zd zh;rw [<- (abr D.al.tr D.hc).2] at m1 m2 m3;refine gF0 func113 ?_;refine gC (fun ht8=>?_) (fun ht8=>?_) (st1:=(3,0))
 ·cases ht8
 ·refine gC (fun ht22=>?_) (fun ht22=>?_) (st1:=(5, 0))
  ·cases ht22
  ·refine gC (fun ht50=>?_) (fun ht50=>?_) (st2:=(77777, 0))
   ·refine gc m1 ?_;refine gc m2 ?_;refine gc m3 ?_;refine gD ?_;refine gE1 ?_;rfl
   ·cases ht50
theorem DyOk.drv {l:Li} {k:Int} {a:As} {own:Bool} {n:Nat} {g:Gr} (h:DyOk l k a own n g) (hk:g.kind = 0):∃ i z0 d j0, g = ⟨0, [i], [z0], d⟩ /\ l.joints[z0.toNat]? = some j0 /\ PinP l a j0 i:=by
 have hd:=h.dy;cases hd with
 | rrr _ _ _ _ _ _ _=>exact absurd hk (by simp)
 | pr _ _ _=>exact absurd hk (by simp)
 | rp _ _ _=>exact absurd hk (by simp)
 | @drv b z d j x t d0 hd hb=>exact ⟨b,z,d,j,rfl,t.hj,h.pin rfl t (by simp) (by simp)⟩
end Go.Lw
namespace Go.Lw
open Go.Proofs
theorem bpy {l:Li} {k:Int} {a:As} {own:Bool} (hli:liE l = 0) (hs:ado l = 0) (hk:¬ (k < 0 \/ ((ack l).length:Int) <= k)) (hb:a.bs.length = l.bodies.length) (hc:aer a.rs = 0) {g:Gr} (hg:gAt l k = g) (hgo:GrOk l g) :
  ay2 l k a own = adi ((List.range l.bodies.length).map (ndM l g a own)):=by
 rw [bra hs hk hb hc,hg,bd6 hli hgo]
theorem ari {n i:Nat} (h:i < n):(List.range n)[i]? = some i:=List.getElem?_range h
theorem bpq {l:Li} {g:Gr} {a:As} {own:Bool} {i:Nat} {p:Pl} (h:decide ((i:Int) ∈ ndL l g own) = true) (hp:a.bs[i]? = some p):ndM l g a own i = abh a.rs p.l:=by
 unfold ndM ndE;rw [if_pos (of_decide_eq_true h),if_neg oz,toNat_natCast,aah hp]
theorem bqa {l:Li} {g:Gr} {a:As} {own:Bool} {i:Nat} (h:decide ((i:Int) ∈ ndL l g own) = false):ndM l g a own i = 0:=if_neg (of_decide_eq_false h)
theorem a9u (l:Li) (hl:l.ok) (hli:liE l = 0) (k:Int) (a:As) (al:AL a) (own:Bool):FnC prog 32 [l.av, i64 k, a.av, bl own] (i64 (ay2 l k a own)):=by
 have hbl:=al.bl;have hlb:=(ab8 hli).2.2.2.1;refine gF0 func32 ?_;refine gc (ahn l hl hli) ?_;refine gC (fun ht28=>?_) (fun ht28=>?_)
 ·have h1:=ahv ht28;refine gE1 ?_;rw [brk h1]
 ·have h1:=aho ht28;refine glG ?_;refine gC (fun ht32=>?_) (fun ht32=>?_)
  ·have h2:=bl5 ht32;refine gE1 ?_;rw [brf h1 h2]; rfl
  ·have h2:=bov ht32;refine gl ?_;refine gl ?_;refine gC (fun ht41=>?_) (fun ht41=>?_)
   ·have h3:=bgh ht41;refine gE1 ?_;rw [brd h1 h2 h3]; rfl
   ·have h3:=bgi ht41;refine gc (Con.subA (.cons (.refl _) (.cons (Sub.nil 1 none 0) .nil)) (ayl a.rs 40000 0 al.tr [] (fun x hx=>by cases hx) (zero_le _) (by show 0 <= 1000; omega))) ?_;refine gC (fun ht53=>?_) (fun ht53=>?_)
    ·have h4:=ahv ht53;rw [bhr] at h4;refine gE1 ?_;rw [bre h1 h2 h3 h4,bhr]
    ·have h4:=aho ht53;rw [bhr] at h4;obtain ⟨i,rfl,hi⟩:=bgv h2;obtain ⟨g,hg⟩:=ab5 hi;obtain ⟨hgd,hgo⟩:=aso hli (mem_of_getElem? hg);have hgA:gAt l (i:Nat) = g:=aah hg;have hE:=bpy (own:=own) hli h1 h2 h3 h4 hgA hgo;have hgb:=hgo.lb;have hgj:=hgo.lj;have hal:=ah8 l g;refine gl ?_;refine gs (agr (.tmp rfl) T185 rfl T4 rfl rfl oz (by dsimp only; omega) rfl) ?_ (12,0);refine gW (Wk.of (sl:=[(1,some (i64 i)),(3,some (bl own)),(4,some (.ptr 4 0)),(6,some (.ptr 6 0)),(9,some (.lst 4 ((ack l).map Gr.av))),(12,some (.ms 58 1 0 l.bodies.length))]) (hp:=[(4,some (.box l.av.cells)),(6,some (.box a.av.cells)),(58,some (.row 1 ((mkN l.bodies.length []).map bl)))]) (.k (.k (.k (.k (.k (.cons rfl (Sub.of (by rw [toNat_natCast])) .nil)))))) (.k (.k (.cons rfl (BlkSub.of (by rw [bh2,map_replicate]; simp only [toNat_natCast]; rfl)) .nil)))) ?_ (12,0)
     refine gW (Wk.rekey (k:=58) (d:=900) rfl rfl) ?_;refine gi (aag hg) ?_;refine gc (avo l hl g hgo) ?_;refine gD ?_;refine gl ?_;refine gL1 [1,3,6,9,68,69] [6] (fun (j:Nat)=>[(12,some (.ms 900 1 0 l.bodies.length)),(70,some (i64 j))]) (fun j=>[(900,some (.row 1 ((mkN l.bodies.length ((ajx l g).take j)).map bl)))]) (fun j=>j <= (ajx l g).length) (fun j=>(ajx l g).length - j) 0 (zero_le _) ?_;rintro j hj K1 hK1;refine gC (fun ht71=>?_) (fun ht71=>?_) (st2:=(19,0))
     ·have hjn:=aa9 ht71;obtain ⟨b,hb⟩:=ab5 hjn;have hbr:=bba hli hgo b (mem_of_getElem? hb);refine gi (aag hb) ?_;refine gC (fun ht75=>?_) (fun ht75=>?_)
      ·have hb0 : 0 <= b := by have := of_decide_eq_true (p := b >= 0) ht75; omega
       have hst:mkN l.bodies.length ((ajx l g).take (j + 1)) = (mkN l.bodies.length ((ajx l g).take j)).set b.toNat true:=by rw [aaj hb]; exact bcf hb0 hbr
       have hv:=aom (n:=l.bodies.length) (i:=b.toNat) oz ((ajx l g).take j);refine gs (ahi (.tmp rfl) (.tmp rfl) T185 rfl T4 rfl oz oz rfl) ?_;refine gs (abb (.tmp rfl) rfl (by rw [Nat.zero_add,getElem?_map,hv]; rfl) rfl (.const _) rfl rfl T4 rfl rfl) ?_;refine ga aat ?_;exact gK1 hK1 (j + 1) hjn (hw:=Wk.of aa6 (.cons rfl (BlkSub.of (by rw [hst]; first | done | (rw [map_set,Nat.zero_add]; rfl))) (.k .nil)))
      ·have hb0 : b < 0 := by have := of_decide_eq_false (p := b >= 0) ht75; omega
       have hst:mkN l.bodies.length ((ajx l g).take (j + 1)) = mkN l.bodies.length ((ajx l g).take j):=by rw [aaj hb]; exact bjf hb0
       refine ga aat ?_;exact gK1 hK1 (j + 1) hjn (hw:=Wk.of aa6 (.cons rfl (BlkSub.of (by rw [hst]; first | done | (rw [map_set,Nat.zero_add]; rfl))) (.k .nil)))
     ·have hjn:=aan hj ht71;subst hjn;refine gW (Wk.of (sl:=[(1,some (i64 i)),(3,some (bl own)),(6,some (.ptr 6 0)),(9,some (.lst 4 ((ack l).map Gr.av))),(12,some (.ms 900 1 0 l.bodies.length))]) (hp:=[(6,some (.box a.av.cells)),(900,some (.row 1 ((mkN l.bodies.length (ajx l g ++ (if own = true then g.bodies.take 0 else []))).map bl)))]) aa6 (.k (.cons rfl (BlkSub.of (by rw [take_length]; cases own <;> simp)) .nil))) ?_;refine gi (aag hg) ?_;refine gl ?_;refine gL1 [3,6,84,85] [6] (fun (q:Nat)=>[(12,some (.ms 900 1 0 l.bodies.length)),(86,some (i64 q))]) (fun q=>[(900,some (.row 1 ((mkN l.bodies.length (ajx l g ++ (if own = true then g.bodies.take q else []))).map bl)))]) (fun q=>q <= g.bodies.length) (fun q=>g.bodies.length - q) 0 (zero_le _) ?_;rintro q hq K2 hK2;refine gC (fun ht87=>?_) (fun ht87=>?_) (st2:=(24,0))
      ·have hqn:=aa9 ht87;obtain ⟨b,hb⟩:=ab5 hqn;obtain ⟨hb0,hbr⟩:=hgo.b b (mem_of_getElem? hb);have hst:=bhp (n:=l.bodies.length) (xs:=ajx l g) (own:=own) hb hb0 hbr;have hv:=aom (n:=l.bodies.length) (i:=b.toNat) oz (ajx l g ++ (if own = true then g.bodies.take q else []));rw [show ((b.toNat:Nat):Int) = b by omega] at hv;refine gi (aag hb) ?_;refine gs (ahi (.tmp rfl) (.tmp rfl) T185 rfl T4 rfl oz oz rfl) ?_;refine gs (aaw (.tmp rfl) rfl (by rw [Nat.zero_add,getElem?_map,hv]; rfl) T4 rfl rfl rfl) ?_;refine gs (ahi (.tmp rfl) (.tmp rfl) T185 rfl T4 rfl oz oz rfl) ?_;refine gs (abb (.tmp rfl) rfl (by rw [Nat.zero_add,getElem?_map,hv]; rfl) rfl (.tmp rfl) rfl rfl T4 rfl rfl) ?_;refine ga aat ?_;exact gK1 hK2 (q + 1) hqn (hw:=Wk.of aa6 (.cons rfl (BlkSub.of (by rw [hst,map_set,Nat.zero_add]; rfl)) (.k .nil)))
      ·have hqn:=aan hq ht87;subst hqn;refine gW ((Wk.freeze (k:=900) rfl).trans <| Wk.of (sl:=[(6,some (.ptr 6 0)),(12,some (.lst 1 ((mkN l.bodies.length (ndL l g own)).map bl)))]) (hp:=[(6,some (.box a.av.cells))]) (.k (.cons rfl (Sub.of (by rw [abq (by rw [length_map,aoy]),take_length]; rfl)) .nil)) (.k .nil)) ?_;refine gl ?_;have hml:(mkN l.bodies.length (ndL l g own)).length = l.bodies.length:=aoy _ _;refine gL1 [6,101,102] [6] (fun (m:Nat)=>[(103,some (i64 m))]) (fun _=>[]) (fun m=>m <= (mkN l.bodies.length (ndL l g own)).length /\ ∀ c ∈ (List.range l.bodies.length).take m,ndM l g a own c = 0) (fun m=>(mkN l.bodies.length (ndL l g own)).length - m) 0 ⟨zero_le _,fun c hc=>by simp at hc⟩ ?_;rintro m ⟨hm,hmz⟩ K3 hK3;refine gC (fun ht104=>?_) (fun ht104=>?_)
       ·have hmn:=aa9 ht104;have hmn2:m < l.bodies.length:=by omega
        have hv:=aom hmn2 (ndL l g own);obtain ⟨p,hp⟩:=ab5 (l:=a.bs) (i:=m) oz;refine gi (aag hv) ?_;refine gi (aag hp) ?_;refine gC (fun ht113=>?_) (fun ht113=>?_)
        ·have hM:=bpq ht113 hp;refine gc (ayl a.rs 40000 4000 al.tr p.l (al.nr p (mem_of_getElem? hp)) (bly _) (by show 4 <= 1000; omega)) ?_;refine gC (fun ht127=>?_) (fun ht127=>?_)
         ·have h5:=ahv ht127;refine gE1 ?_;rw [hE,a7n (ari hmn2) hmz (by rw [hM]; exact h5),hM]
         ·have h5:=aho ht127;have hz:ndM l g a own m = 0:=hM.trans h5;refine ga aat ?_;exact gK1 hK3 (m + 1) ⟨hmn,fun c hc=>by rw [aaj (ari hmn2)] at hc; rcases List.mem_append.1 hc with h9 | h9; exact hmz c h9; (rw [List.mem_singleton.1 h9]; exact hz)⟩
        ·have hz:ndM l g a own m = 0:=bqa ht113;refine ga aat ?_;exact gK1 hK3 (m + 1) ⟨hmn,fun c hc=>by rw [aaj (ari hmn2)] at hc; rcases List.mem_append.1 hc with h9 | h9; exact hmz c h9; (rw [List.mem_singleton.1 h9]; exact hz)⟩
       ·have hmn:=aan hm ht104;refine gE1 ?_;rw [hE,af7 (fun c hc=>hmz c (by rw [hmn,hml,take_of_length_le (by rw [List.length_range]; exact le_refl _)]; exact hc))]; rfl
theorem axs (a:As) (ha:a.ok):FnC prog 7 [a.av] (bl (bfm a)):=by
 have hbl:=ha.bl;refine gF0 func7 ?_;refine gl ?_;refine gL1 [1,6,7] [1] (fun (i:Nat)=>[(8,some (i64 i))]) (fun _=>[]) (fun i=>i <= a.bs.length /\ (a.bs.take i).all (fun b=>ahc a.rs b.l) = true) (fun i=>a.bs.length - i) 0 ⟨zero_le _,rfl⟩ ?_;rintro i ⟨hi,hj⟩ K1 hK1;refine gC (fun ht9=>?_) (fun ht9=>?_)
 ·have hin:=aa9 ht9;obtain ⟨b,hb⟩:=ab5 hin;have hbo:=ha.bs b (mem_of_getElem? hb);refine gi (aag hb) ?_;refine gc (amf a.rs b.l ha.rs hbo ha.rl (by show 4 <= 100; omega)) ?_;refine gC (fun ht24=>?_) (fun ht24=>?_)
  ·have h1:=af8 ht24;refine gE1 ?_;unfold bfm; rw [ajf hb h1]; rfl
  ·have h1:=af1 ht24;refine ga aat ?_;exact gK1 hK1 (i + 1) ⟨hin,ans hj hb h1⟩
 ·have hin:=aan hi ht9;refine gl ?_;refine gcG (fun _=>(Con.subA (.cons (.refl _) (.cons (Sub.nil 1 none 0) .nil)) (amf a.rs [] ha.rs a3v ha.rl (by show 0 <= 100; omega)))) ?_;refine glG ?_;refine glG ?_;refine gE1 ?_;exact congrArg bl (bkx (arp hin hj))
end Go.Lw
namespace Go.Lw
def bd7 (s:ByteArray) (n:Int):Bd:=⟨s,[⟨⟨#[97]⟩,rt ((0:Int):Rat),rt ((0:Int):Rat)⟩,⟨⟨#[98]⟩,rt (n:Rat),rt ((0:Int):Rat)⟩]⟩
def fb:Li:=⟨⟨#[102, 111, 117, 114, 98, 97, 114]⟩, [bd7 ⟨#[102, 114, 97, 109, 101]⟩ 4, bd7 ⟨#[99, 114, 97, 110, 107]⟩ 3, bd7 ⟨#[99, 111, 117, 112, 108, 101, 114]⟩ 5, bd7 ⟨#[114, 111, 99, 107, 101, 114]⟩ 6],
  [⟨⟨#[111]⟩,0,1,0,0,0,0⟩,⟨⟨#[112]⟩,0,2,0,1,1,0⟩,⟨⟨#[113]⟩,0,3,0,0,1,0⟩,⟨⟨#[114]⟩,0,2,1,3,1,0⟩],[⟨⟨#[100]⟩,1⟩]⟩
def t0:Tn:=⟨⟨false,[],[]⟩,false⟩
theorem av6 (a b:ByteArray):eqS a b = (a.data.toList == b.data.toList):=by
 unfold eqS; rw [Go.ByteArray.toList_eq,Go.ByteArray.toList_eq]
theorem bq6:liE fb = 0:=by
 have h1:a1n fb = 0:=by
  unfold a1n aej bdE ayi mkE;simp only [av6];decide +kernel
 have h2:ase fb = 0:=by
  unfold ase aej jtE ayi;simp only [av6];decide +kernel
 have h3:a0b fb = 0:=by
  unfold a0b aej drE ayi;simp only [av6];decide +kernel
 unfold liE;rw [h1,h2,h3];decide +kernel
theorem bjz {s:ByteArray} (hs:s.size <= 281474976710656) {n:Int} (hn:-9223372036854775808 <= n /\ n <= 9223372036854775807) :
  (bd7 s n).name.size <= 281474976710656 /\ (bd7 s n).pts.length <= 281474976710656 /\ ∀ m ∈ (bd7 s n).pts,m.name.size <= 281474976710656 /\ m.x.wok /\ m.y.wok:=by
 have h0:(rt ((0:Int):Rat)).ok:=(apf oz).ok;have h1:(rt (n:Rat)).ok:=(apf hn).ok;refine ⟨hs,by show 2 <= _; omega,fun m hm=>?_⟩;simp only [bd7,mem_cons,not_mem_nil,or_false] at hm;rcases hm with rfl | rfl
 ·exact ⟨by show 1 <= _; omega,h0.wok,h0.wok⟩
 ·exact ⟨by show 1 <= _; omega,h1.wok,h0.wok⟩
theorem bnq:fb.okw:=by
 refine ⟨by decide,fun b hb=>?_,fun j hj=>?_,fun d hd=>?_,by decide,by decide,by decide⟩
 ·simp only [fb, mem_cons, not_mem_nil, or_false] at hb;rcases hb with rfl | rfl | rfl | rfl <;> exact bjz (by decide) oz
 ·simp only [fb, mem_cons, not_mem_nil, or_false] at hj;rcases hj with rfl | rfl | rfl | rfl <;> decide
 ·simp only [fb, mem_cons, not_mem_nil, or_false] at hd;rcases hd with rfl; decide
theorem bnl:fb.ok:=bll (by decide +kernel) bnq
end Go.Lw
namespace Go.Lw
def pl1:Pl:=⟨[rt ((1:Int):Rat)],[],[],[]⟩
def plN:Pl:=⟨[],[],[],[]⟩
def asQ:As:=⟨[],[pl1,pl1,plN,plN],[]⟩
def jQ0:Jt:=⟨⟨#[112]⟩,0,2,0,1,1,0⟩
def jQ1:Jt:=⟨⟨#[113]⟩,0,3,0,0,1,0⟩
def jQ2:Jt:=⟨⟨#[114]⟩,0,2,1,3,1,0⟩
theorem bl8:∃ d, gAt fb 1 = ⟨1, [2, 3], [1, 2, 3], d⟩:=by
 have h:(gAt fb 1).kind = 1 /\ (gAt fb 1).bodies = [2,3] /\ (gAt fb 1).joints = [1,2,3]:=by decide +kernel
 generalize gAt fb 1 = g at h ⊢;obtain ⟨a,b,c,d⟩:=g;obtain ⟨rfl,rfl,rfl⟩:=h;exact ⟨d,rfl⟩
theorem bla:dyE fb 1 asQ false = 0:=by
 unfold dyE ay2;rw [if_neg (by rw [bq6]; decide),if_neg (show ¬ ado fb ≠ 0 by decide +kernel),if_neg (show ¬ ((1:Int) < 0 \/ ((ack fb).length:Int) <= 1) by decide +kernel),if_neg (show ¬ asQ.bs.length ≠ fb.bodies.length by decide +kernel),if_neg (show ¬ aer asQ.rs ≠ 0 by decide +kernel)];refine af7 fun b hb=>?_
 have h:∀ b ∈ ndL fb (gAt fb 1) false,ndE asQ b = 0:=by decide +kernel
 exact h b (aol.1 hb)
theorem bl3 (x:Tn):a6a fb 1 x asQ = a5r fb asQ 2 3 jQ0 jQ1 jQ2:=by
 obtain ⟨d,h⟩:=bl8;unfold a6a;rw [if_pos bla,h];rfl
def mQ:Mt:=asq (aa1 fb asQ jQ0 2) (aa1 fb asQ jQ1 3) (qE (sqQ (aak fb jQ2 2) (aak fb jQ0 2))) (qE (sqQ (aak fb jQ2 3) (aak fb jQ1 3)))
theorem bhb:mQ.ts = [] /\ mQ.ps.length = 1:=by
 have h1:¬ sgE (d2E (aa1 fb asQ jQ0 2) (aa1 fb asQ jQ1 3)) = 0:=by decide +kernel
 have h2:¬ sgE (ajy (aa1 fb asQ jQ0 2) (qE (sqQ (aak fb jQ2 2) (aak fb jQ0 2))) (aa1 fb asQ jQ1 3) (qE (sqQ (aak fb jQ2 3) (aak fb jQ1 3)))) < 0:=by decide +kernel
 have h3:sgE (ajy (aa1 fb asQ jQ0 2) (qE (sqQ (aak fb jQ2 2) (aak fb jQ0 2))) (aa1 fb asQ jQ1 3) (qE (sqQ (aak fb jQ2 3) (aak fb jQ1 3)))) = 0:=by decide +kernel
 unfold mQ asq;rw [if_neg h1,if_neg h2,if_pos h3];exact ⟨rfl,rfl⟩
def hQ0:Hd:=⟨aak fb jQ0 2,P2.l (aa1 fb asQ jQ0 2),aak fb jQ2 2⟩
def hQ1:Hd:=⟨aak fb jQ1 3,P2.l (aa1 fb asQ jQ1 3),aak fb jQ2 3⟩
theorem bos:(hdQ mQ.ts (mQ.ps.getD 0 ([],[])) hQ0).c = [((-1:Int):Rat)]:=by decide +kernel
theorem bng (x:Tn):∃ p0 p1:Pq, a6a fb 1 x asQ = ([(⟨[], [p0, p1], 0⟩:Sv).av], 0) /\ p0.c = [((-1:Int):Rat)]:=by
 refine ⟨hdQ mQ.ts (mQ.ps.getD 0 ([],[])) hQ0,hdQ mQ.ts (mQ.ps.getD 0 ([],[])) hQ1,?_,bos⟩;rw [bl3];unfold a5r;rw [if_neg (show ¬ ah9 [afp (aak fb jQ2 2) (aak fb jQ0 2),afp (aak fb jQ2 3) (aak fb jQ1 3)] = true by decide +kernel),if_neg (show ¬ atf (aa1 fb asQ jQ0 2) (aa1 fb asQ jQ1 3) (qE (sqQ (aak fb jQ2 2) (aak fb jQ0 2))) (qE (sqQ (aak fb jQ2 3) (aak fb jQ1 3))) ≠ 0 by decide +kernel)];show (plL mQ [hQ0,hQ1] mQ.ps.length,0) = _;rw [bhb.2];show ([(⟨mQ.ts,[hdQ mQ.ts (mQ.ps.getD 0 ([],[])) hQ0,hdQ mQ.ts (mQ.ps.getD 0 ([],[])) hQ1],if mQ.ps.length = 1 then 0 else 1 - 2 * ((0:Nat):Int)⟩:Sv).av],0) = _;generalize hdQ mQ.ts (mQ.ps.getD 0 ([],[])) hQ0 = p;generalize hdQ mQ.ts (mQ.ps.getD 0 ([],[])) hQ1 = q;rw [bhb.1,if_pos bhb.2]
theorem blg:bk2 fb asQ (gAt fb 1) = []:=by
 obtain ⟨d,h⟩:=bl8;rw [h];show bk2 fb asQ ⟨1,[2,3],[1,2,3],0⟩ = [];decide +kernel
theorem bpo:∀ b ∈ asQ.bs, apq b.l:=by
 have h1:(rt ((1:Int):Rat)).wok:=(apf (n:=1) oz).ok.wok
 have h2:apq pl1.l:=by
  intro x hx;simp only [Pl.l,pl1,mem_cons,not_mem_nil,or_false] at hx;rcases hx with rfl | rfl | rfl | rfl
  ·exact ⟨fun r hr=>by rw [List.mem_singleton.1 hr]; exact h1,by show 1 <= _; omega⟩
  all_goals exact ⟨fun r hr=>(by cases hr),by show 0 <= _; omega⟩
 have h3:apq plN.l:=by
  intro x hx;simp only [Pl.l,plN,mem_cons,not_mem_nil,or_false] at hx;rcases hx with rfl | rfl | rfl | rfl
  all_goals exact ⟨fun r hr=>(by cases hr),by show 0 <= _; omega⟩
 intro b hb;simp only [asQ,mem_cons,not_mem_nil,or_false] at hb;rcases hb with rfl | rfl | rfl | rfl
 ·exact h2
 ·exact h2
 ·exact h3
 ·exact h3
theorem bki:AL asQ:=bf6 (by decide +kernel) ⟨a3v,by decide,bpo,by decide⟩
end Go.Lw
namespace Go.Lw
open Go.Proofs
theorem aea.ofL {l l':List AV} (h:SubL l l') (ho:l'.all AV.one = true):aea (.agg l) (.agg l') :=
 ⟨h.len,fun j x y hx hy=>⟨List.all_eq_true.1 ho y (mem_of_getElem? hy),h.get j x y hx hy⟩⟩
theorem bfx:aea (.agg [.v (.slice none 0 0),.v (.slice none 0 0),.v (.slice none 0 0),.v (.slice none 0 0)]) plN.av:=.ofL (.cons (.nil _ _ _) (.cons (.nil _ _ _) (.cons (.nil _ _ _) (.cons (.nil _ _ _) .nil)))) rfl
theorem bf7:aea (.agg [nA [1],nA [],nA [],nA []]) pl1.av:=.ofL (.cons (.refl _) (.cons (.refl _) (.cons (.refl _) (.cons (.refl _) .nil)))) rfl
theorem a9c:Sub (.agg [.v (.slice none 0 0), .lst 4 [.agg [nA [1], nA [], nA [], nA []], .agg [nA [1], nA [], nA [], nA []], .agg [.v (.slice none 0 0), .v (.slice none 0 0), .v (.slice none 0 0), .v (.slice none 0 0)], .agg [.v (.slice none 0 0), .v (.slice none 0 0), .v (.slice none 0 0), .v (.slice none 0 0)]], .v (.slice none 0 0)]) asQ.av:=by
 refine .agg (.cons (.nil _ _ _) (.cons (Sub.lst rfl (fun i x y hx hy=>?_)) (.cons (.nil _ _ _) .nil))) rfl
 match i,hx,hy with
 | 0,hx,hy=>cases hx; cases hy; exact bf7
 | 1,hx,hy=>cases hx; cases hy; exact bf7
 | 2,hx,hy=>cases hx; cases hy; exact bfx
 | 3,hx,hy=>cases hx; cases hy; exact bfx
theorem ark (s:ByteArray) (x y:Int) (hx:-9223372036854775808 <= x /\ x <= 9223372036854775807) (hy:-9223372036854775808 <= y /\ y <= 9223372036854775807):FnC prog 133 [.v (.string s), i64 x, i64 y] (Mk.av ⟨s, rt (x:Rat), rt (y:Rat)⟩):=by
 refine gF0 func133 ?_;refine gc (ahy x hx) ?_;refine gc (ahy y hy) ?_;refine gE1 ?_
 first | rfl | (simp; done)
theorem ams (s:ByteArray) (n:Int) (hn:-9223372036854775808 <= n /\ n <= 9223372036854775807):FnC prog 52 [.v (.string s), i64 n] (bd7 s n).av:=by
 refine gF0 func52 ?_;refine gc (ark _ 0 0 oz oz) ?_;refine gc (ark _ n 0 hn oz) ?_;refine gE1 ?_
 first | rfl | (simp; done)
theorem awi:FnC prog 16 [] fb.av:=by
 refine gF0 func16 ?_;refine gc (ams _ 4 oz) ?_;refine gc (ams _ 3 oz) ?_;refine gc (ams _ 5 oz) ?_;refine gc (ams _ 6 oz) ?_;refine gE1 ?_
 first | rfl | (simp; done)
theorem ary:FnC prog 5 [] (bl true):=by
 have z:(⟨false,[],[]⟩:Rt).q = 0:=Rt.zero (fun h=>h.2 rfl);obtain ⟨p0,p1,hr,hp⟩:=bng ⟨⟨false,[],[]⟩,false⟩;have hS:=at6 fb bnl 1 (x:=⟨⟨false,[],[]⟩,false⟩) ⟨arc,arc,zero_le _,zero_le _⟩ (by show Qb 1000 (⟨false,[],[]⟩:Rt).q; rw [z]; exact Qb.zero.mono oz) asQ bki (fun _=>by decide);rw [hr] at hS;have hS2:=Con.subA (.cons (.refl _) (.cons (.refl _) (.cons (Sub.agg (.cons (.refl _) (.cons (Sub.nil 1 none 0) (.cons (Sub.nil 1 none 0) (.cons (.refl _) .nil)))) rfl) (.cons a9c .nil)))) hS;have hD:=avi fb bnl 1 asQ bki;rw [bla,if_pos rfl,blg] at hD;have hD2:=Con.subA (.cons (.refl _) (.cons (.refl _) (.cons a9c .nil))) hD;have tw0:Tw [] 40000:=(abr (rs:=[]) bki.tr (by decide +kernel)).1;have n1:Nm 0 10 [((-1:Int):Rat)]:=(brt (n:=0) oz (show Qb 1 ((-1:Int):Rat) from ⟨by decide,by decide⟩)).mono oz;have hE:=aet (ts:=[]) tw0 n1 n1 (by decide);rw [atw] at hE;have hG:=atp (ts:=[]) tw0 (a:=[]) (e:=0) ⟨by decide,.inl rfl,Cb.nil⟩ (by decide);have tq:Sub (.agg [.v (.slice none 0 0)]) (aa5 []):=.agg (.cons (.nil _ _ _) .nil) rfl;have hE2:=Con.subA (.cons tq (.cons (.refl _) (.cons (.refl _) .nil))) hE;have hG2:=Con.subA (.cons tq (.cons (.refl _) .nil)) hG;refine gF0 func5 ?_;refine gc awi ?_;refine gc aqe ?_;refine gc aqe ?_;refine gc hS2 ?_;refine gc hD2 ?_;refine geG (fun _=>rfl) ?_;refine giG (fun _=>(rfl)) ?_;refine giG (fun _=>(rfl)) ?_;refine glG ?_;refine gcG (fun _=>hG2) ?_;refine giG (fun _=>(rfl)) ?_;refine glG ?_;refine giG (fun _=>(rfl)) ?_;refine giG (fun _=>(rfl)) ?_;refine gcG (fun _=>(akb (-1) oz)) ?_;refine gcG (fun _=>(by rw [hp]; exact hE2)) ?_;refine gD ?_;refine gE1 ?_;rfl
end Go.Lw
namespace Go.Lw
open Go.Proofs
theorem bpz {d f g:Bool} (h:cond (cond (cond (!true) true (!d)) true (!f)) true (!g) = false):d = true /\ f = true /\ g = true:=by cases d <;> cases f <;> cases g <;> simp_all
theorem bpv {r:Rt} (h:ahc [] [[r]] = true) (hw:r.wok):r.ok /\ Qb 1000 r.q:=by
 unfold ahc at h;rw [if_pos (.inl (zero_le _))] at h;unfold alt at h;rw [nil_append,all_eq_true] at h;obtain ⟨_,h1,o1⟩:=as0 (h _ (mem_cons_self ..)) oz oz (fun x hx=>by rw [List.mem_singleton.1 hx]; exact hw);exact ⟨o1 _ (by simp),(h1 _ (by simp [lq])).mono oz⟩
theorem bi3 {a:As} (h:bfm a = true) (h5:aer a.rs = 0):(llq a.rs).length <= 1:=by
 unfold bfm at h;simp only [and_eq_true,decide_eq_true_eq] at h;rcases h.2.2 with h9 | h9
 ·rw [a1r]; exact h9
 ·exfalso;unfold aer at h5;rw [if_pos oz] at h5;cases h5
end Go.Lw
namespace Go.Lw
open Go.Proofs
theorem bcv {a b:List Rat} {n:Nat} (ha:a.length = n) (hb:b.length = n):a ++ b = afm a b n:=by
 unfold afm aay;rw [ha,hb,Nat.sub_self]; simp
theorem bmg {ts:LL} {j e:Nat} {a:List Rat} {q:Rat} (h5:j <= 5) (ha:Nl j a) (ca:Cb e a) (he:e < 4398046511104) (hs:sh j (dec j a) = [q]) (hq:q ≠ 0) :
  FnC prog 318 [aa5 ts,nA a] (nA [1 / q]):=by
 have cs:=ca.sh ha;rw [hs] at cs;have qq:Qs q:=cs.qs he (by simp);have hsh:=acu a h5 ha;rw [hs] at hsh;have hdv:=aya (rt 1) (rt q) (Qb.one.qs oz).ok qq.ok;rw [agm,agm,if_neg hq] at hdv;refine gF0 func318 ?_;refine gc hsh ?_;refine gl ?_;refine gC (fun ht16=>?_) (fun ht16=>?_) (st2:=(77777,0))
 ·refine gc (ahy 1 oz) ?_;refine gi rfl ?_;refine gc hdv ?_;refine gD ?_;refine gE1 ?_;rfl
 ·cases ht16
theorem blr {ts:LL} {m r:Nat} (ht:awt ts m r) (hp:Pos (aae ts) m) (hm:m <= 5) (hml:m <= ts.length) {j e i:Nat} {a s L:List Rat} (h5:j <= 5) (ha:Nl j a) (ca:Cb e a) (he:4 * e + 3 * eB r i + r + 1 < 4398046511104) (hs:sh j (dec j a) = s) (hi:i + 1 <= m)
  (hsl:s.length = 2 ^ (i + 1)) (hb:sB r i (4 * e + 3 * eB r i + r + 1) < 4398046511104) (h0:T.sgn (aae ts) i (dec i (aj2 ts i s)) = 0)
  (hL:FnC prog 318 [aa5 ts,nA (acx (s.take (2 ^ i)) (s.take (2 ^ i)))] (nA L)):FnC prog 318 [aa5 ts,nA a] (nA L):=by
 have cs:=ca.sh ha;have hsh:=acu a h5 ha;rw [hs] at cs hsh;have hp2:=Nat.two_pow_pos i;have hpi:2 ^ i <= 32:=aax (b:=5) oz;have hps:2 ^ (i + 1) = 2 * 2 ^ i:=by rw [Nat.pow_succ]; omega
 obtain ⟨nn,dn,cn⟩:=ajk hm ht oz hsl cs;have hR:∀ z,z < m -> (ts.map nA)[z]? = some (nA (ts.getD z [])):=fun z hz=>akf oz
 have k4:=afz ts m r ht hm hp (ts.map nA) hR i _ _ oz nn cn hb;have qs:∀ q ∈ s.take (2 ^ i),Qs q:=fun q hq=>cs.take.qs oz hq
 refine gF0 func318 ?_;refine gc hsh ?_;refine gl ?_;refine gC (fun ht16=>?_) (fun ht16=>?_) (st1:=(4,0))
 ·exact absurd ht16 (by simp only [aaa,beq_iff_eq]; omega)
 ·refine gs (adg (.tmp rfl) (.const _) oz (show _ = ((2 ^ i : Nat) : Int) by rw [ab3 oz, hsl, abw]) rfl) ?_;refine gs (aam (.tmp rfl) (.none _) (.some _ (.tmp rfl) oz) T46 rfl T29 rfl oz (by simp only [length_map]; omega) rfl) ?_;refine gs (adg (.tmp rfl) (.const _) oz (show _ = ((2 ^ i:Nat):Int) by rw [ab3 oz,hsl,abw]) rfl) ?_;refine gs (aam (.tmp rfl) (.some _ (.tmp rfl) oz) (.none _) T46 rfl T29 rfl (by simp only [length_map]; omega) oz rfl) ?_;refine gD ?_ (7,0);refine gW (Wk.of (sl:=[(1,some (nA s)),(2,some (.ptr 2 0)),(5,some (i64 s.length)),(8,some (nA (s.take (2 ^ i)))),(9,some (nA (s.drop (2 ^ i))))]) (hp:=[(2,some (.box [.lst 1 (ts.map nA)]))]) (.k (.k (.k (.cons rfl (Sub.of (ag1 s (2 ^ i))) (.cons rfl (Sub.of (ae5 s (2 ^ i))) .nil))))) (.k .nil)) ?_;refine gc (aoh ts m r ht hm (ts.map nA) hR i s.length s e oz hsl hsl cs oz) ?_;refine gc k4 ?_;refine gC (fun ht42=>?_) (fun ht42=>?_) (st2:=(77777,0))
  ·refine gc (aft _ _ qs qs (by simp; omega) (by simp; omega)) ?_;refine gc hL ?_;refine gD ?_;refine gE1 ?_;rfl
  ·exact absurd ht42 (by rw [h0]; decide)
theorem boi {ts:LL} {m r:Nat} (ht:awt ts m r) (hp:Pos (aae ts) m) (hm:m <= 5) (hml:m <= ts.length) {j e f i:Nat} {a s L:List Rat} (h5:j <= 5) (ha:Nl j a) (ca:Cb e a) (he:4 * e + 3 * eB r i + r + 1 < 4398046511104) (hs:sh j (dec j a) = s) (hi:i + 1 <= m)
  (hsl:s.length = 2 ^ (i + 1)) (hb:sB r i (4 * e + 3 * eB r i + r + 1) < 4398046511104) (h0:T.sgn (aae ts) i (dec i (aj2 ts i s)) ≠ 0)
  (hL:FnC prog 318 [aa5 ts,nA (aj2 ts i s)] (nA L)) (nL:Nl i L) (cL:Cb f L) (hf:e + f + eB r (i + 1) < 4398046511104) :
  FnC prog 318 [aa5 ts,nA a] (nA (rT ts (i + 1) (afm (s.take (2 ^ i)) (ab1 (s.drop (2 ^ i))) (2 ^ i)) L)):=by
 have cs:=ca.sh ha;have hsh:=acu a h5 ha;rw [hs] at cs hsh;have hp2:=Nat.two_pow_pos i;have hpi:2 ^ i <= 32:=aax (b:=5) oz;have hps:2 ^ (i + 1) = 2 * 2 ^ i:=by rw [Nat.pow_succ]; omega
 obtain ⟨nn,dn,cn⟩:=ajk hm ht oz hsl cs;have hR:∀ z,z < m -> (ts.map nA)[z]? = some (nA (ts.getD z [])):=fun z hz=>akf oz
 have k4:=afz ts m r ht hm hp (ts.map nA) hR i _ _ oz nn cn hb;have qy:∀ q ∈ s.drop (2 ^ i),Qs q:=fun q hq=>cs.drop.qs oz hq
 have lx:(s.take (2 ^ i)).length = 2 ^ i:=ac7 hsl;have ly:(s.drop (2 ^ i)).length = 2 ^ i:=adc hsl;have nj:Nl (i + 1) (afm (s.take (2 ^ i)) (ab1 (s.drop (2 ^ i))) (2 ^ i)):=.inr ⟨i + 1,le_refl _,by rw [ag4 oz (by rw [ab4]; omega)]; omega⟩;have cj:Cb e (afm (s.take (2 ^ i)) (ab1 (s.drop (2 ^ i))) (2 ^ i)):=bdr cs;have hti:=af5 ts m r ht hm (ts.map nA) hR (i + 1) (i + 1) _ _ e f hi (le_refl _) nj (nL.mono oz) cj cL hf;rw [<- bcv lx (by rw [ab4]; exact ly)] at hti ⊢;refine gF0 func318 ?_;refine gc hsh ?_;refine gl ?_;refine gC (fun ht16=>?_) (fun ht16=>?_) (st1:=(4,0))
 ·exact absurd ht16 (by simp only [aaa,beq_iff_eq]; omega)
 ·refine gs (adg (.tmp rfl) (.const _) oz (show _ = ((2 ^ i : Nat) : Int) by rw [ab3 oz, hsl, abw]) rfl) ?_;refine gs (aam (.tmp rfl) (.none _) (.some _ (.tmp rfl) oz) T46 rfl T29 rfl oz (by simp only [length_map]; omega) rfl) ?_;refine gs (adg (.tmp rfl) (.const _) oz (show _ = ((2 ^ i:Nat):Int) by rw [ab3 oz,hsl,abw]) rfl) ?_;refine gs (aam (.tmp rfl) (.some _ (.tmp rfl) oz) (.none _) T46 rfl T29 rfl (by simp only [length_map]; omega) oz rfl) ?_;refine gD ?_ (7,0);refine gW (Wk.of (sl:=[(1,some (nA s)),(2,some (.ptr 2 0)),(5,some (i64 s.length)),(8,some (nA (s.take (2 ^ i)))),(9,some (nA (s.drop (2 ^ i))))]) (hp:=[(2,some (.box [.lst 1 (ts.map nA)]))]) (.k (.k (.k (.cons rfl (Sub.of (ag1 s (2 ^ i))) (.cons rfl (Sub.of (ae5 s (2 ^ i))) .nil))))) (.k .nil)) ?_;refine gc (aoh ts m r ht hm (ts.map nA) hR i s.length s e oz hsl hsl cs oz) ?_;refine gc k4 ?_;refine gC (fun ht42=>?_) (fun ht42=>?_) (st1:=(9,0))
  ·exact absurd ht42 (by simp only [aaa,beq_iff_eq]; omega)
  ·refine gs (acy T46 rfl T29 rfl rfl rfl) ?_;refine gs (aa0 (.tmp rfl) rfl rfl (.tmp rfl) T46 rfl T29 rfl rfl (by dsimp only; rw [length_map]; omega) rfl rfl) ?_;refine gc (alb _ qy oz) ?_;refine gs (aep (.tmp rfl) rfl (by simp) (.tmp rfl) T46 rfl T29 rfl rfl (by dsimp only; rw [length_map,length_map,ab4]; omega) rfl rfl) ?_;refine gc hL ?_;refine gc (by have h9:=hti; unfold nA at h9; rw [map_append] at h9; exact h9) ?_;refine gD ?_;refine gE1 ?_;rfl
theorem av2 {ts:LL} {m r:Nat} (ht:awt ts m r) (hp:Pos (aae ts) m) (hm:m <= 5) (hml:m <= ts.length) (j:Nat):∀ (a:List Rat) (e:Nat), j <= m -> Nl j a -> Cb e a -> T.sgn (aae ts) j (dec j a) ≠ 0 ->
  sB r j e < 4398046511104 -> iB r j e < 4398046511104 -> ∃ L,FnC prog 318 [aa5 ts,nA a] (nA L) /\ Nl j L /\ Cb (iB r j e) L /\ dec j L = T.inv (aae ts) j (dec j a):=by
 induction j using Nat.strongRecOn
 rename_i j ih;intro a e hj ha ca h0 hs hi;have hse:=auy r j e;have cs:=ca.sh ha;have hsn:=ahs j (dec j a);have hsd:=aa4 j (dec j a);have hle:=baa r j e;obtain ⟨s,hsa⟩:∃ s,sh j (dec j a) = s:=⟨_,rfl⟩
 rcases ah0 hsn with h | h | ⟨i,hij,h⟩
 ·exfalso;have h1:=List.length_eq_zero_iff.1 h;rw [h1,ae7] at hsd;rw [<- hsd,T.sgn_zero] at h0;exact h0 rfl
 ·obtain ⟨q, hq⟩:=List.length_eq_one_iff.1 h;rw [hq,aib] at hsd;rw [<- hsd,T.sgn_ofQ] at h0;have q0:q ≠ 0:=by rintro rfl; exact h0 rfl
  refine ⟨[1 / q],bmg oz ha ca oz hq q0,.inr ⟨0,by omega,rfl⟩,(Cb.inv1 (hq ▸ cs) q0).mono hle,?_⟩;rw [<- hsd,<- aib j q];exact akt (aae ts) (i:=0) (s:=[q]) (L:=[1 / q]) (by simp) (by simp) rfl oz
 ·have hz:=a78 h hij;rw [hsa] at h cs hsd hsn hz;obtain ⟨nn,dn,cn⟩:=ajk hm ht oz h cs;have hsl:s.length <= 2 ^ (i + 1):=by omega
  have b1:sB r i (4 * e + 3 * eB r i + r + 1) <= sB r j e:=at7 r e hij;have b2:=auy r i (4 * e + 3 * eB r i + r + 1);have b3:iB r (i + 1) e <= iB r j e:=bg6 r e hij;have b4:iB r (i + 1) e = e + iB r i (4 * e + 3 * eB r i + r + 1) + eB r (i + 1):=rfl;have lx:(s.take (2 ^ i)).length = 2 ^ i:=ac7 h;have ly:(s.drop (2 ^ i)).length = 2 ^ i:=adc h;have hpi:2 ^ i <= 2 ^ (i + 1):=Nat.pow_le_pow_right oz oz;rw [<- hsd] at h0 ⊢
  by_cases hN:T.sgn (aae ts) i (dec i (aj2 ts i s)) = 0
  ·have hS:=aps (aae ts) i (fun k hk=>hp k oz)
   have hx:T.sgn (aae ts) i (dec i (acx (s.take (2 ^ i)) (s.take (2 ^ i)))) ≠ 0:=by
    rw [ac6];rw [al1 (aae ts) hsl hij] at h0;rw [dn] at hN;exact a15 hS (hp i oz) (x:=dec i (s.take (2 ^ i))) (y:=dec i (s.drop (2 ^ i))) h0 hN
   have np:Nl i (acx (s.take (2 ^ i)) (s.take (2 ^ i))):=.inr ⟨i,le_refl _,by rw [abp]; omega⟩;have b5:=aki r i (e:=e + e + 1) (f:=4 * e + 3 * eB r i + r + 1) oz;have b6:=auk r i (e:=e + e + 1) (f:=4 * e + 3 * eB r i + r + 1) oz;obtain ⟨L,k1,k2,k3,k4⟩:=ih i oz _ _ oz np (cs.take.plus cs.take) hx oz oz;refine ⟨L,blr ht hp hm hml oz ha ca oz hsa oz h oz hN k1,k2.mono oz,k3.mono oz,?_⟩;refine akt (aae ts) (i:=i + 1) hsl (le_trans k2.le hpi) ?_ hij;rw [bop (aae ts) hz (by rw [<- dn]; exact hN),afq k2.le,k4,ac6];rfl
  ·obtain ⟨L, k1, k2, k3, k4⟩:=ih i oz _ _ oz nn cn hN oz oz;have nj:Nl (i + 1) (afm (s.take (2 ^ i)) (ab1 (s.drop (2 ^ i))) (2 ^ i)):=.inr ⟨i + 1,le_refl _,by rw [ag4 oz (by rw [ab4]; omega),Nat.pow_succ]; omega⟩;have s1:=afi hm ht (k:=i + 1) (show i + 1 <= m by omega) (le_refl _) nj (k2.mono oz) (bdr cs) k3;refine ⟨_,boi ht hp hm hml oz ha ca oz hsa oz h oz hN k1 k2 k3 oz,s1.1.mono hij,s1.2.2.mono oz,?_⟩;refine akt (aae ts) (i:=i + 1) hsl s1.1.le ?_ hij;rw [bm2 (aae ts) hz (by rw [<- dn]; exact hN),s1.2.1,am0 oz,afq k2.le,mul_low,aeo,k4,dn];rfl
theorem ba4 {ts:LL} {r f j:Nat} (tw:Tw ts r) {b:List Rat} (hb:Nm ts.length f b) (hj:j <= ts.length) (nb:Nl j b) (h0:T.sgn (aae ts) ts.length (dec ts.length b) ≠ 0) (hf:f <= lm ts.length) (hi:iB r j f < 4398046511104) :
  ∃ L,FnC prog 318 [aa5 ts,nA b] (nA L) /\ Nl ts.length L /\ Cb (iB r j f) L /\ dec ts.length L = T.inv (aae ts) ts.length (dec ts.length b):=by
 rw [al1 (aae ts) nb.le hj] at h0;obtain ⟨L,k1,k2,k3,k4⟩:=av2 tw.ok tw.pos tw.five (le_refl _) j b f hj nb hb.cb h0 (arh hj tw.three tw.le hf) hi;exact ⟨L,k1,k2.mono hj,k3,akt (aae ts) nb.le k2.le k4 hj⟩
theorem bjg {ts:LL} {r e f:Nat} (tw:Tw ts r) {a b:List Rat} (ha:Nm ts.length e a) (hb:Nm ts.length f b) (he:e <= 4398046511103) (hf:f <= 4398046511103):FnC prog 151 [aa5 ts, .lst 1 [nA a, nA b]] (i64 0):=by
 have hck:=adj (ts.map (List.map rt)) r tw.tr [a.map rt,b.map rt] (am3 (asm ha he) (asm hb hf)) (by simp);have hc0:abh (ts.map (List.map rt)) [a.map rt,b.map rt] = 0:=ajb tw ha hb;rw [hc0,ad2] at hck;rw [show [nA a,nA b] = [a.map rt,b.map rt].map nR by simp [agt]];exact hck
theorem a8g {ts:LL} {r e:Nat} (tw:Tw ts r) {a:List Rat} (ha:Nm ts.length e a) (he:e <= 4398046511103):FnC prog 151 [aa5 ts, .lst 1 [nA a]] (i64 0):=by
 have hck:=adj (ts.map (List.map rt)) r tw.tr [a.map rt] (fun x hx=>by rw [List.mem_singleton.1 hx]; exact ⟨(asm ha he).ok,(asm ha he).len⟩) (by simp);have hc0:abh (ts.map (List.map rt)) [a.map rt] = 0:=arg tw ha;rw [hc0,ad2] at hck;rw [show [nA a] = [a.map rt].map nR by simp [agt]];exact hck
theorem a4c {ts:LL} {r f j:Nat} (tw:Tw ts r) {b:List Rat} (hb:Nm ts.length f b) (hj:j <= ts.length) (nb:Nl j b) (h0:T.sgn (aae ts) ts.length (dec ts.length b) ≠ 0) (hf:f <= lm ts.length) (hi:iB r j f <= 200000000000) :
  FnC prog 283 [aa5 ts,nA b] (.tup [nA (sh ts.length (T.inv (aae ts) ts.length (dec ts.length b))),i64 0]):=by
 have hlm:=ajn ts.length;have h5:=tw.five;have hfe:=baa r j f;have hR:∀ z,z < ts.length -> (ts.map nA)[z]? = some (nA (ts.getD z [])):=fun z hz=>akf oz
 have hsB:=arh (le_refl ts.length) tw.three tw.le hf;have hsg:=afz ts ts.length r tw.ok h5 tw.pos (ts.map nA) hR ts.length _ _ (le_refl _) hb.nl hb.cb hsB;obtain ⟨L,k1,k2,k3,k4⟩:=ba4 tw hb hj nb h0 hf oz;have hsh:=acu L h5 k2;rw [k4] at hsh;refine gF0 func283 ?_;refine gc (a8g tw hb oz) ?_;refine gC (fun ht12=>?_) (fun ht12=>?_) (st1:=(3,0))
 ·cases ht12
 ·refine gc hsg ?_;refine gC (fun ht17=>?_) (fun ht17=>?_) (st1:=(5,0))
  ·exact absurd ht17 (by simp only [aaa,beq_iff_eq]; omega)
  ·refine gc k1 ?_;refine gc hsh ?_;refine gE2 ?_;rfl
theorem bmm {ts:LL} {r f j:Nat} (tw:Tw ts r) {b:List Rat} (hb:Nm ts.length f b) (hj:j <= ts.length) (nb:Nl j b) (h0:T.sgn (aae ts) ts.length (dec ts.length b) ≠ 0) (hf:f <= lm ts.length) (hi:iB r j f <= 200000000000) :
  Nm ts.length (iB r j f) (sh ts.length (T.inv (aae ts) ts.length (dec ts.length b))):=by
 obtain ⟨L,k1,k2,k3,k4⟩:=ba4 tw hb hj nb h0 hf oz;refine ⟨tw.five,ahs _ _,?_⟩;rw [<- k4];exact k3.sh k2
theorem bow {ts:LL} {r e f j:Nat} (tw:Tw ts r) {a b:List Rat} (ha:Nm ts.length e a) (hb:Nm ts.length f b) (hj:j <= ts.length) (nb:Nl j b) (h0:T.sgn (aae ts) ts.length (dec ts.length b) ≠ 0) (hf:f <= lm ts.length) (he:e + iB r j f + eB r ts.length <= 200000000000) :
  FnC prog 218 [aa5 ts,nA a,nA b] (.tup [nA (sh ts.length (T.mul (aae ts) ts.length (dec ts.length a) (T.inv (aae ts) ts.length (dec ts.length b)))),i64 0]):=by
 have hlm:=ajn ts.length;have h5:=tw.five;have hfe:=baa r j f;have hR:∀ z,z < ts.length -> (ts.map nA)[z]? = some (nA (ts.getD z [])):=fun z hz=>akf oz
 have k:=bmm tw hb hj nb h0 hf oz;have hti:=af5 ts ts.length r tw.ok h5 (ts.map nA) hR ts.length ts.length _ _ _ _ (le_refl _) (le_refl _) ha.nl k.nl ha.cb k.cb oz;have s1:=afi h5 tw.ok (k:=ts.length) (le_refl ts.length) (le_refl _) ha.nl k.nl ha.cb k.cb;have hsh:=acu _ h5 s1.1;rw [s1.2.1,aa4] at hsh;refine gF0 func218 ?_;refine gc (bjg tw ha hb oz oz) ?_;refine gC (fun ht17=>?_) (fun ht17=>?_) (st1:=(3,0))
 ·cases ht17
 ·refine gc (a4c tw hb hj nb h0 hf oz) ?_;refine gC (fun ht26=>?_) (fun ht26=>?_) (st1:=(6,0))
  ·cases ht26
  ·refine gc hti ?_;refine gc hsh ?_;refine gE2 ?_;rfl
theorem aoe {ts:LL} {r e f j:Nat} (tw:Tw ts r) {a b:List Rat} (ha:Nm ts.length e a) (hb:Nm ts.length f b) (hj:j <= ts.length) (nb:Nl j b) (h0:T.sgn (aae ts) ts.length (dec ts.length b) ≠ 0) (hf:f <= lm ts.length) (he:e + iB r j f + eB r ts.length <= 200000000000) :
  FnC prog 117 [aa5 ts,nA a,nA b] (nA (sh ts.length (T.mul (aae ts) ts.length (dec ts.length a) (T.inv (aae ts) ts.length (dec ts.length b))))):=by
 refine gF0 func117 ?_;refine gc (bow tw ha hb hj nb h0 hf he) ?_;refine gE1 ?_;rfl
theorem a1u {ts:LL} {r e:Nat} (tw:Tw ts r) {a b c:List Rat} (ha:Nm ts.length e a) (hb:Nm ts.length e b) (hc:Nm ts.length e c) (he:2 * e <= lm ts.length) :
  FnC prog 115 [aa5 ts,nA a,ptA b c] (ptA (sh ts.length (T.mul (aae ts) ts.length (dec ts.length a) (dec ts.length b))) (sh ts.length (T.mul (aae ts) ts.length (dec ts.length a) (dec ts.length c)))):=by
 refine gF0 func115 ?_;refine gc (acr tw ha hb oz) ?_;refine gc (acr tw ha hc oz) ?_;refine gD ?_;refine gE1 ?_;rfl
end Go.Lw
namespace Go.Lw
theorem T.inv_congr {r r':(k:Nat) -> T k}:∀ (k:Nat), (∀ j, j < k -> r j = r' j) -> ∀ x, T.inv r k x = T.inv r' k x
 | 0,_,x=>rfl
 | k + 1, h, x=>by
  have ih:=T.inv_congr k (fun j hj=>h j oz);have hm:=T.mul_congr k (fun j hj=>h j oz);have hs:=T.sgn_congr k (fun j hj=>h j oz)
  have hn:T.norm r k x = T.norm r' k x:=by
   unfold T.norm;rw [h k oz];simp only [hm]
  conv=>lhs; unfold T.inv
  conv=>rhs; unfold T.inv
  simp only [ih,hm,hs,hn]
def lft {n N:Nat} (x:T n):T N:=dec N (sh n x)
section
variable {n N:Nat} {r r':(k:Nat) -> T k}
theorem akq (x:T n):(lft x:T (n + 1)) = (x, T.zero n):=by
 unfold lft;rw [afq (ahs n x).le,aa4]
theorem bir (hN:N = n + 1) (h:∀ j, j < n -> r j = r' j) (x y:T n):(lft (T.mul r n x y):T N) = T.mul r' N (lft x) (lft y):=by
 subst hN;rw [akq,akq,akq,mul_low,T.zero_mul,T.mul_congr n h]
theorem bj7 (hN:N = n + 1) (x y:T n):(lft (T.add n x y):T N) = T.add N (lft x) (lft y):=by
 subst hN;rw [akq,akq,akq];show (T.add n x y,T.zero n) = (T.add n x y,T.add n (T.zero n) (T.zero n));rw [T.zero_add]
theorem bhw (hN:N = n + 1) (x:T n):(lft (T.neg n x):T N) = T.neg N (lft x):=by
 subst hN;rw [akq,akq];show (T.neg n x,T.zero n) = (T.neg n x,T.neg n (T.zero n));rw [T.neg_zero]
theorem bqd (hN:N = n + 1) (q:Rat):(lft (T.ofQ n q):T N) = T.ofQ N q:=by
 subst hN;rw [akq]; rfl
theorem bhu (hN:N = n + 1) (h:∀ j, j < n -> r j = r' j) (x:T n):(lft (T.inv r n x):T N) = T.inv r' N (lft x):=by
 subst hN;rw [akq,akq,T.inv_low,T.inv_congr n h]
end
section
variable {ts:LL} (X:Et ts)
theorem bgu {l:List Rat} (j:Nat) (hj:j < ts.length):aae ts j = aae (ab2 ts l) j:=(a1w hj).symm
theorem ae1 (x y:Et ts):upE X (x * y) = upE X x * upE X y:=bir (acv _ _) bgu x y
theorem ax0 (x y:Et ts):upE X (x + y) = upE X x + upE X y:=bj7 (acv _ _) x y
theorem bga (x:Et ts):upE X (-x) = -upE X x:=bhw (acv _ _) x
theorem bfy (x y:Et ts):upE X (x - y) = upE X x - upE X y:=by
 rw [show x - y = x + -y by grind,ax0,bga]; grind
theorem bk4 (q:Rat):upE X (qE q) = qE q:=bqd (acv _ _) q
theorem ati (x:Et ts):upE X (iE x) = iE (upE X x):=bhu (acv _ _) bgu x
end
theorem aln {ts:LL}:(qE ((1:Int):Rat):Et ts) = 1:=rfl
theorem bau {ts:LL}:(qE ((-1:Int):Rat):Et ts) = -1:=by
 have h:=(T.ofQ_neg ts.length ((1:Nat):Rat))
 rw [show (((-1:Int):Rat)) = -((1:Nat):Rat) by rfl];exact h
theorem a36 {ts:LL} (d:Et ts):twE d = d + d:=by
 have h:(qE ((2:Int):Rat):Et ts) = 1 + 1:=by
  have h:=T.ofQ_add ts.length ((1:Nat):Rat) ((1:Nat):Rat);rw [show (((2:Int):Rat)) = ((1:Nat):Rat) + ((1:Nat):Rat) by decide +kernel];exact h
 unfold twE;rw [h]; grind
theorem bjc {ts:LL}:(qE 0:Et ts) = 0:=rfl
section
variable {ts:LL}
theorem bfg (p q:P2 ts) (z z2:Et ts):apz p q z z2 = alE p ((qE ((1:Int):Rat) * iE (d2E p q + d2E p q)) * (z + d2E p q - z2)) (sbE q p):=by
 unfold apz awr alE;rw [a36,aln];refine Prod.ext ?_ ?_
 ·show p.1 + (z + d2E p q - z2) * iE (d2E p q + d2E p q) * (q.1 - p.1) = p.1 + 1 * iE (d2E p q + d2E p q) * (z + d2E p q - z2) * (q.1 - p.1);grind
 ·show p.2 + (z + d2E p q - z2) * iE (d2E p q + d2E p q) * (q.2 - p.2) = p.2 + 1 * iE (d2E p q + d2E p q) * (z + d2E p q - z2) * (q.2 - p.2);grind
def hvE (p q:P2 ts):P2 ts:=(qE ((1:Int):Rat) * iE (d2E p q + d2E p q) * (0 - (sbE q p).2),qE ((1:Int):Rat) * iE (d2E p q + d2E p q) * (sbE q p).1)
theorem bf9 (X:Et ts) (f p q:P2 ts):ami X f (awr p q) (ag0 X (d2E p q)) = (upE X f.1 + lnR X * upE X (hvE p q).1, upE X f.2 + lnR X * upE X (hvE p q).2):=by
 unfold ami alE ag0 hvE;rw [a36,bau];refine Prod.ext ?_ ?_
 ·show upE X f.1 + lnR X * iE (upE X (d2E p q + d2E p q)) * (-1 * upE X (q.2 - p.2)) = upE X f.1 + lnR X * upE X (qE ((1:Int):Rat) * iE (d2E p q + d2E p q) * (0 - (q.2 - p.2)));rw [ae1,ae1,bk4,ati,show (0:Et ts) - (q.2 - p.2) = -(q.2 - p.2) by grind,bga,aln];grind
 ·show upE X f.2 + lnR X * iE (upE X (d2E p q + d2E p q)) * upE X (q.1 - p.1) = upE X f.2 + lnR X * upE X (qE ((1:Int):Rat) * iE (d2E p q + d2E p q) * (q.1 - p.1));rw [ae1,ae1,bk4,ati,aln];grind
theorem bl0 (X:Et ts) (f p q:P2 ts):ami X f (awr p q) (qE ((-1:Int):Rat) * ag0 X (d2E p q)) = (upE X f.1 - lnR X * upE X (hvE p q).1, upE X f.2 - lnR X * upE X (hvE p q).2):=by
 have h:=bf9 X f p q;have h1:=congrArg Prod.fst h;have h2:=congrArg Prod.snd h;unfold ami alE at h1 h2 ⊢;rw [bau] at h1 h2 ⊢;dsimp only at h1 h2;refine Prod.ext ?_ ?_
 ·dsimp only; grind
 ·dsimp only; grind
def hlE (p q:P2 ts):P2 ts:=(qE ((1:Int):Rat) * iE (lnS p q) * (sbE q p).1,qE ((1:Int):Rat) * iE (lnS p q) * (sbE q p).2)
theorem bmp (X:Et ts) (p q c:P2 ts):lnQ X p (sbE q p) (lnK X (lnS p q) (upE X (lnE p q c) + lnR X)) =
  (upE X (alE p (lnE p q c * iE (lnS p q)) (sbE q p)).1 + lnR X * upE X (hlE p q).1,upE X (alE p (lnE p q c * iE (lnS p q)) (sbE q p)).2 + lnR X * upE X (hlE p q).2):=by
 unfold lnQ lnK hlE alE;refine Prod.ext ?_ ?_
 ·dsimp only;rw [ax0,ae1,ae1,ae1,ae1,ati,bk4,aln];grind
 ·dsimp only;rw [ax0,ae1,ae1,ae1,ae1,ati,bk4,aln];grind
theorem bod (X:Et ts) (p q c:P2 ts):lnQ X p (sbE q p) (lnK X (lnS p q) (upE X (lnE p q c) - lnR X)) =
  (upE X (alE p (lnE p q c * iE (lnS p q)) (sbE q p)).1 - lnR X * upE X (hlE p q).1,upE X (alE p (lnE p q c * iE (lnS p q)) (sbE q p)).2 - lnR X * upE X (hlE p q).2):=by
 unfold lnQ lnK hlE alE;refine Prod.ext ?_ ?_
 ·dsimp only;rw [ax0,ae1,ae1,ae1,ae1,ati,bk4,aln];grind
 ·dsimp only;rw [ax0,ae1,ae1,ae1,ae1,ati,bk4,aln];grind
theorem bmb (r:(k:Nat) -> T k):∀ (n:Nat) (q:Rat), T.inv r n (T.ofQ n q) = T.ofQ n (1 / q)
 | 0,q=>rfl
 | n + 1, q=>by
  show T.inv r (n + 1) (T.ofQ n q,T.zero n) = (T.ofQ n (1 / q),T.zero n);rw [T.inv_low,bmb r n q]
theorem bn7:(iE (qE 1):Et ts) = 1:=by
 show T.inv (aae ts) ts.length (T.ofQ ts.length 1) = _;rw [bmb,show (1:Rat) / 1 = ((1:Nat):Rat) by decide +kernel];rfl
end
end Go.Lw
namespace Go.Lw
open Go.Proofs
theorem auj (d:Nat) (hd:Nat.blt d 1000 = true) (k:Nat) (hk:k <= 5):Con prog 217 [i64 k] [] (.ms d 3 0 (2 ^ (k + 1))) [(d, some (.row 3 ((adb k).map qA)))]:=by
 have hp:2 ^ (k + 1) <= 64:=aax (b:=6) oz;have hp2:2 ^ k < 2 ^ (k + 1):=Nat.pow_lt_pow_right oz oz;have hp0:=Nat.two_pow_pos k;refine gF func217 (fun k z h=>by cases h) ?_;refine gs (ae3 (.const _) (.tmp rfl) oz (a24 hk) rfl) ?_;refine gs (agr (.tmp rfl) T46 rfl T29 rfl rfl oz (by dsimp only; omega) rfl) ?_;refine gs (ae3 (.const _) (.tmp rfl) oz (agj oz) rfl) ?_;refine gc (ahy 1 oz) ?_;refine gs (aas (n:=2 ^ k) (.tmp rfl) (.tmp rfl) T46 rfl T29 rfl oz oz rfl) ?_;refine gs (abb (.tmp rfl) rfl (by rw [List.getElem?_replicate,if_pos oz]) rfl (.tmp rfl) rfl rfl T29 rfl rfl) ?_;refine gD ?_ (3,0);refine gW (Wk.of (sl:=[(3,some (.ms 6 3 0 (2 ^ (k + 1))))]) (hp:=[(6,some (.row 3 ((adb k).map qA)))]) (.cons rfl (Sub.of (congrArg (AV.ms 6 3 0) (toNat_natCast _))) .nil) (.cons rfl (a31 k) .nil)) ?_;refine gR ?_;exact Fin.own1 rfl hd rfl
theorem aw7 (k:Nat) (hk:k <= 5):FnC prog 217 [i64 k] (nA (adb k)):=by
 have h:=Con.freeze (by rw [length_map,anr]; omega) (auj 0 rfl k hk);rw [drop_zero,take_of_length_le (by rw [length_map,anr]; exact le_refl _)] at h;exact h
theorem ayd {ts:LL} {r e:Nat} (tw:Tw ts r) {a:List Rat} (ha:Nm ts.length e a) (he:e <= lm ts.length) (hs:0 <= T.sgn (aae ts) ts.length (dec ts.length a)) :
  FnC prog 114 [aa5 ts,nA a] (.tup [aa5 (ab2 ts a),nA (adb ts.length),i64 0]):=by
 have h3:=tw.three;have h5:=tw.five;have hlm:=ajn ts.length;have hl:=ha.nl.le;have hR:∀ z,z < ts.length -> (ts.map nA)[z]? = some (nA (ts.getD z [])):=fun z hz=>akf oz
 have hsg:=afz ts ts.length r tw.ok h5 tw.pos (ts.map nA) hR ts.length _ _ (le_refl _) ha.nl ha.cb (arh (le_refl ts.length) h3 tw.le he);have hqs:=tw.rb.qs tw.le;refine gF0 func114 ?_;refine gc (a8g tw ha oz) ?_;refine gC (fun ht17=>?_) (fun ht17=>?_) (st1:=(3,0))
 ·cases ht17
 ·refine gc hsg ?_;refine gC (fun ht23=>?_) (fun ht23=>?_) (st1:=(5,0))
  ·exact absurd ht23 (by simp only [aaa,decide_eq_true_eq]; omega)
  ·refine gl ?_;refine gC (fun ht29=>?_) (fun ht29=>?_) (st1:=(8,0))
   ·exact absurd ht29 (by simp only [aaa,beq_iff_eq]; omega)
   ·refine gl ?_;refine gW (Wk.virt 900 1 rfl) ?_;refine gL1 [1,2,4,8,9,32,33] [2,4] (fun (i:Nat)=>[(34,some (i64 i))]) (fun i=>[(9,some (.box [.ms 900 1 0 i])),(900,some (.row 1 ((ts.take i).map nA)))]) (fun i=>i <= ts.length) (fun i=>ts.length - i) 0 (zero_le _) ?_ (h2:=(.cons rfl (BlkSub.boxL (.cons (.nilMs _ _ _) .nil) rfl) (.k .nil)));rintro i hi K1 hK1;refine gC (fun ht35=>?_) (fun ht35=>?_)
    ·have hin:=aa9 ht35;obtain ⟨d,hd⟩:=ab5 hin
     have hdl:d.length <= 32:=by
      have h9:=tw.len i hin;rw [aah hd] at h9;have:2 ^ i <= 32:=aax (b:=5) oz;omega
     refine gi (aag hd) ?_;refine gs (acy T46 rfl T29 rfl rfl rfl) ?_;refine gs (aep (.tmp rfl) rfl rfl (.tmp rfl) T46 rfl T29 rfl rfl (by simp only [length_map]; omega) rfl rfl) ?_;refine gs (aa0 (.tmp rfl) rfl (by rw [length_map,length_take]; omega) (.tmp rfl) T34 rfl T46 rfl rfl (by simp only [length_cons,length_nil]; omega) rfl rfl) ?_;refine gD ?_ (14,0);refine gW (Wk.of (sl:=[(1,some (nA a)),(2,some (.ptr 2 0)),(4,some (.ptr 4 0)),(8,some (i64 ts.length)),(9,some (.ptr 9 0)),(32,some (.lst 1 (ts.map nA))),(33,some (i64 ts.length)),(34,some (i64 i))]) (hp:=[(2,some (.box [.lst 1 (ts.map nA)])),(4,some (.box [.v (.slice none 0 0)])),(9,some (.box [.ms 44 1 0 (i + 1)])),(44,some (.row 1 ((ts.take (i + 1)).map nA)))]) aa6 (.k (.k (.k (.cons rfl (BlkSub.of (by rw [aaj hd,map_append]; rfl)) .nil))))) ?_ (14,0)
     refine gW (Wk.rekey (k:=44) (d:=900) rfl rfl) ?_;refine ga aat ?_;exact gK1 hK1 (i + 1) hin
    ·have hin:=aan hi ht35;subst hin;refine gs (ae3 (.const _) (.tmp rfl) oz (agj oz) rfl) ?_;refine gc (agb a (2 ^ ts.length) hl (by have:2 ^ ts.length <= 32:=aax (b:=5) oz; omega)) ?_;refine gs (aa0 (.tmp rfl) rfl (by rw [length_map,length_take]; omega) (.tmp rfl) T34 rfl T46 rfl rfl (by simp only [length_cons,length_nil]; omega) rfl rfl) ?_;refine gD ?_ (16,0);refine gW ((Wk.freeze (k:=54) rfl).trans <| Wk.of (sl:=[(2,some (.ptr 2 0)),(4,some (.ptr 4 0)),(8,some (i64 ts.length)),(9,some (.ptr 9 0))]) (hp:=[(2,some (.box [.lst 1 (ts.map nA)])),(4,some (.box [.v (.slice none 0 0)])),(9,some (.box [.lst 1 ((ab2 ts a).map nA)]))]) aa6 (.k (.k (.cons rfl (BlkSub.boxL (.cons (Sub.of (by rw [abq (by simp)]; unfold ab2; simp)) .nil) rfl) .nil)))) ?_;refine gc (aw7 ts.length oz) ?_;refine gD ?_;refine gE3 ?_;rfl
section
variable {ts:LL} {u k:Nat} {a b a2 b2:List Rat} {x y x2 y2:Et ts} {w v w' v' w2 v2 w3 v3:Nat}
theorem a8t [c:Cy ts u k] [ha:Zl ts u k a x w v] [hb:Zl ts u k b y w' v'] (hs:w * u + v * k + (w' * u + v' * k) < 200000000000):FnC prog 110 [aa5 ts, nA a, nA b] (nA (sX (x - y))):=by
 obtain ⟨R,tw,hk⟩:=c.ex;have h1:=af0 tw ha.nm hb.nm (by rw [c.lm]; omega);rw [ha.eq,hb.eq] at h1;exact h1
theorem aj8 [c:Cy ts u k] [hc:Zl ts u k a x w v] [ha:Zl ts u k a2 x2 w2 v2] [hb:Zl ts u k b2 y2 w3 v3] (e:Nat) (h1:w * u + v * k <= e) (h2:w2 * u + v2 * k <= e) (h3:w3 * u + v3 * k <= e) (he:e <= 100000000000) :
  FnC prog 115 [aa5 ts,nA a,ptA a2 b2] (ptA (sX (x * x2)) (sX (x * y2))):=by
 obtain ⟨R,tw,hk⟩:=c.ex;have h9:=a1u tw (hc.nm.mono h1) (ha.nm.mono h2) (hb.nm.mono h3) (by rw [c.lm]; omega);rw [hc.eq,ha.eq,hb.eq] at h9;exact h9
theorem bar [c:Cy ts u k] [ha:Zl ts u k a x w v] [hb:Zl ts u k b y w' v'] [ha2:Zl ts u k a2 x2 w2 v2] [hb2:Zl ts u k b2 y2 w3 v3] (e:Nat) (h1:w * u + v * k <= e) (h2:w' * u + v' * k <= e) (h3:w2 * u + v2 * k <= e) (h4:w3 * u + v3 * k <= e) (he:e <= 100000000000) :
  FnC prog 120 [aa5 ts,ptA a b,ptA a2 b2] (ptA (sX (x + x2)) (sX (y + y2))):=by
 obtain ⟨R,tw,hk⟩:=c.ex;have h9:=ax3 tw (ha.nm.mono h1) (hb.nm.mono h2) (ha2.nm.mono h3) (hb2.nm.mono h4) (by rw [c.lm]; omega);rw [ha.eq,hb.eq,ha2.eq,hb2.eq] at h9;exact h9
theorem a7d [c:Cy ts u k] [ha:Zl ts u k a x w v] [hb:Zl ts u k b y w' v'] [ha2:Zl ts u k a2 x2 w2 v2] [hb2:Zl ts u k b2 y2 w3 v3] (e:Nat) (h1:w * u + v * k <= e) (h2:w' * u + v' * k <= e) (h3:w2 * u + v2 * k <= e) (h4:w3 * u + v3 * k <= e) (he:e <= 100000000000) :
  FnC prog 38 [aa5 ts,ptA a b,ptA a2 b2] (ptA (sX (x - x2)) (sX (y - y2))):=by
 obtain ⟨R,tw,hk⟩:=c.ex;have h9:=aka tw (ha.nm.mono h1) (hb.nm.mono h2) (ha2.nm.mono h3) (hb2.nm.mono h4) (by rw [c.lm]; omega);rw [ha.eq,hb.eq,ha2.eq,hb2.eq] at h9;exact h9
theorem awq {j:Nat} [c:Cy ts u k] [ha:Zl ts u k a x w v] [hb:Zl ts u k b y w' v'] (nb:Nl j b) (hj:j <= ts.length) (hj1:j <= 1) (h0:sgE y ≠ 0) (hs:(w + 5 * w') * u + (v + 5 * v' + 3) * k <= 200000000000) :
  FnC prog 117 [aa5 ts,nA a,nA b] (nA (sX (x * iE y))) /\ Zu u k (x * iE y) (w + 5 * w') (v + 5 * v' + 3):=by
 refine ⟨?_,(aqp (a:=a) (b:=b) nb hj hj1 h0 hs).2⟩
 have e:(w + 5 * w') * u + (v + 5 * v' + 3) * k = w * u + v * k + (5 * (w' * u + v' * k) + 2 * k) + k:=by
  simp only [Nat.add_mul,Nat.mul_add,Nat.mul_assoc]; omega
 rw [e] at hs;obtain ⟨R,tw,hk⟩:=c.ex;have h2:=bg5 R (w' * u + v' * k) hj1;have h3:=atl R hj;have h1:T.sgn (aae ts) ts.length (dec ts.length b) ≠ 0:=by rw [hb.eq]; exact h0
 have h9:=aoe tw ha.nm hb.nm hj nb h1 (by rw [c.lm]; omega) oz;rw [ha.eq,hb.eq] at h9;exact h9
theorem axc [c:Cy ts u k] [hb:Zl ts u k b y w v] (hs:w * u + v * k < 200000000000):FnC prog 116 [aa5 ts, ptA a b] (ptA (sX (0 - y)) a):=by
 haveI zn:Zl ts u k [] (0:Et ts) 0 0:=azb;have h1:=Con.subA (.cons (.refl _) (.cons (Sub.nil 3 none 0) (.cons (.refl _) .nil))) (a8t (ts:=ts) (u:=u) (k:=k) (a:=[]) (b:=b) oz);refine gF0 func116 ?_;refine gc h1 ?_;refine gD ?_;refine gE1 ?_;rfl
theorem ao7 (cs:List (List Rat × List Rat × List Rat)) (hl:cs.length <= 2) (hs:∀ q ∈ cs, ∃ g:Int, 0 <= g /\ FnC prog 19 [aa5 ts, nA q.2.2] (i64 g)) :
  FnC prog 119 [aa5 ts,.lst 3 (cs.map fun q=>.agg [nA q.1,nA q.2.1,nA q.2.2])] (i64 0):=by
 refine gF0 func119 ?_;refine gl ?_;refine gL1 [2,7,8] [2] (fun (i:Nat)=>[(9,some (i64 i))]) (fun _=>[]) (fun i=>i <= cs.length) (fun i=>cs.length - i) 0 (zero_le _) ?_;rintro i hi K1 hK1;refine gC (fun ht10=>?_) (fun ht10=>?_)
 ·have hin:=aa9 ht10;obtain ⟨q,hq⟩:=ab5 hin;obtain ⟨g,h0,hg⟩:=hs q (mem_of_getElem? hq);refine gi (aag hq) ?_;refine gc hg ?_;refine gC (fun ht17=>?_) (fun ht17=>?_) (st1:=(5,0))
  ·exact absurd ht17 (by simp only [aaa,decide_eq_true_eq]; omega)
  ·refine ga aat ?_;exact gK1 hK1 (i + 1) hin
 ·refine gE1 ?_;rfl
def bf0 (m h:P2 ts) (X:Et ts):Mt :=
  if sgE X < 0 then ⟨ts,[]⟩ else if sgE X = 0 then ⟨ts,[m.l]⟩
  else ⟨ab2 ts (sX X),[P2.l ((upE X m.1 + lnR X * upE X h.1,upE X m.2 + lnR X * upE X h.2):P2 (ab2 ts (sX X))),P2.l ((upE X m.1 - lnR X * upE X h.1,upE X m.2 - lnR X * upE X h.2):P2 (ab2 ts (sX X)))]⟩
theorem ays {m h:P2 ts} {X:Et ts} (tw:Tw ts 40000) (hn:ts.length <= 1) [c0:Ct ts 4000 300000] (zX:Zu 4000 300000 X 976 989) (m1:Nm ts.length 700000000 (sX m.1)) (m2:Nm ts.length 700000000 (sX m.2)) (h1:Nm ts.length 700000000 (sX h.1)) (h2:Nm ts.length 700000000 (sX h.2)) :
  FnC prog 121 [aa5 ts,ptA (sX m.1) (sX m.2),ptA (sX h.1) (sX h.2),nA (sX X)] (.tup [(bf0 m h X).av,i64 0]):=by
 have hlm:lm ts.length = 200000000000:=by unfold lm; rw [if_pos oz]
 have hsg:=agy (ts:=ts) (u:=4000) (k:=300000) (a:=sX X);refine gF0 func121 ?_;refine gc hsg ?_;refine gC (fun ht17=>?_) (fun ht17=>?_)
 ·have s1 : sgE X < 0 := by have := aco ht17; omega
  refine gR ?_;exact abc (by unfold bf0; rw [if_pos s1]; exact Sub.tup (.cons (Sub.agg (.cons (.refl _) (.cons (.nil _ _ _) .nil)) rfl) (.cons (.refl _) .nil)))
 ·have s1:¬ sgE X < 0:=by
   have h9:=ac5 ht17;rcases (aps (aae ts) ts.length tw.pos).cs X with e | e | e
   ·exact absurd e h9
   ·show ¬ sg (aae ts) ts.length X < 0; omega
   ·show ¬ sg (aae ts) ts.length X < 0; omega
  refine gC (fun ht21=>?_) (fun ht21=>?_)
  ·have s2:sgE X = 0:=aco ht21;refine gE2 ?_;unfold bf0; rw [if_neg s1,if_pos s2]; rfl
  ·have s2:¬ sgE X = 0:=ac5 ht21;have E:ExtP X:=ame tw hn zX oz;have hex:=ayd (a:=sX X) tw zX.nm (by rw [hlm]; decide) (by rw [show dec ts.length (sX X) = X from aa4 _ _]; show 0 <= sgE X; omega);haveI cy:=E.cy;haveI zr:Zl (ab2 ts (sX X)) 700000000 1000000000 (adb ts.length) (lnR X) 1 0:=Zl.at (aov oz) (by decide);haveI q1:Zl (ab2 ts (sX X)) 700000000 1000000000 (sX m.1) (upE X m.1) 1 0:=Zl.at (afs m1 oz) (by decide);haveI q2:Zl (ab2 ts (sX X)) 700000000 1000000000 (sX m.2) (upE X m.2) 1 0:=Zl.at (afs m2 oz) (by decide);haveI q3:Zl (ab2 ts (sX X)) 700000000 1000000000 (sX h.1) (upE X h.1) 1 0:=Zl.at (afs h1 oz) (by decide);haveI q4:Zl (ab2 ts (sX X)) 700000000 1000000000 (sX h.2) (upE X h.2) 1 0:=Zl.at (afs h2 oz) (by decide);have k1:=aj8 (ts:=ab2 ts (sX X)) (u:=700000000) (k:=1000000000) (a:=adb ts.length) (a2:=sX h.1) (b2:=sX h.2) 700000000 (by decide) (by decide) (by decide) (by decide);haveI:=zr.zu; haveI:=q1.zu; haveI:=q2.zu; haveI:=q3.zu; haveI:=q4.zu
   have k2:=bar (ts:=ab2 ts (sX X)) (u:=700000000) (k:=1000000000) (a:=sX m.1) (b:=sX m.2) (a2:=sX (lnR X * upE X h.1)) (b2:=sX (lnR X * upE X h.2)) 10000000000 (by decide) (by decide) (by decide) (by decide) (by decide);have k3:=a7d (ts:=ab2 ts (sX X)) (u:=700000000) (k:=1000000000) (a:=sX m.1) (b:=sX m.2) (a2:=sX (lnR X * upE X h.1)) (b2:=sX (lnR X * upE X h.2)) 10000000000 (by decide) (by decide) (by decide) (by decide) (by decide);refine gc hex ?_;refine gC (fun ht35=>?_) (fun ht35=>?_) (st1:=(8,0))
   ·cases ht35
   ·refine gc k1 ?_;refine gc k2 ?_;refine gc k3 ?_;refine gD ?_;refine gE2 ?_;unfold bf0; rw [if_neg s1,if_neg s2]; rfl
theorem bqe (p:P2 ts):alE p 0 p = p:=by
 unfold alE;refine Prod.ext ?_ ?_
 ·show p.1 + 0 * p.1 = p.1; grind
 ·show p.2 + 0 * p.2 = p.2; grind
def bq4 (p q:P2 ts) (z z2:Et ts):P2 ts:=alE p ((qE ((1:Int):Rat) * iE (d2E p q + d2E p q)) * (z + d2E p q - z2)) (sbE q p)
theorem bcx {p q:P2 ts} {z z2:Et ts} (h0:¬ sgE (d2E p q) = 0):asq p q z z2 = bf0 (bq4 p q z z2) (hvE p q) (ajy p z q z2):=by
 unfold asq bf0;rw [if_neg h0,bf9,bl0,bfg];rfl
theorem awh {z z2:Et ts} (tw:Tw ts 40000) (hn:ts.length <= 1) [c0:Ct ts 4000 300000] [i1:Zu 4000 300000 x 40 40] [i2:Zu 4000 300000 y 40 40] [i3:Zu 4000 300000 z 3 0] [i4:Zu 4000 300000 x2 40 40] [i5:Zu 4000 300000 y2 40 40] [i6:Zu 4000 300000 z2 3 0] (s1:0 <= sgE z) (s2:0 <= sgE z2) :
  FnC prog 41 [aa5 ts,.agg [nA (sX x),nA (sX y),nA (sX z)],.agg [nA (sX x2),nA (sX y2),nA (sX z2)]] (.tup [(asq (x,y) (x2,y2) z z2).av,i64 (atf (x,y) (x2,y2) z z2)]):=by
 haveI cy:Cy ts 4000 300000:=⟨c0.ex,by omega,by omega,by omega⟩
 have P:=a0e c0 i1 i2 i3 i4 i5 i6;haveI:=P.zd;haveI:=P.zX;have g1:=agy (ts:=ts) (u:=4000) (k:=300000) (a:=sX z);have g2:=agy (ts:=ts) (u:=4000) (k:=300000) (a:=sX z2)
 have hrg:=ao7 (ts:=ts) [(sX x, sX y, sX z), (sX x2, sX y2, sX z2)] (le_refl 2) (fun q hq=>by
  simp only [mem_cons,not_mem_nil,or_false] at hq;rcases hq with rfl | rfl
  ·exact ⟨_,s1,g1⟩
  ·exact ⟨_,s2,g2⟩)
 have hd:=ap3 (ts:=ts) (u:=4000) (k:=300000) (a:=sX x) (b:=sX y) (a2:=sX x2) (b2:=sX y2) (by decide);have sd:=agy (ts:=ts) (u:=4000) (k:=300000) (a:=sX (d2E (x,y) (x2,y2)));refine gF0 func41 ?_;refine gc hrg ?_;refine gC (fun ht20=>?_) (fun ht20=>?_) (st1:=(3,0))
 ·cases ht20
 ·refine gc hd ?_;refine gc sd ?_;refine gC (fun ht32=>?_) (fun ht32=>?_)
  ·have hd0:sgE (d2E (x, y) (x2, y2)) = 0:=aco ht32;refine gc (bcr (ts:=ts) (u:=4000) (k:=300000) (a:=sX z) (b:=sX z2)) ?_;refine gC (fun ht33=>?_) (fun ht33=>?_)
   ·have h9 : sgE (z - z2) ≠ 0 := by have := ht33; unfold eqE at this; simpa using this
    refine gR ?_;exact abc (by unfold asq atf bbu bbx; rw [if_pos hd0,if_pos hd0,if_pos h9,if_neg (fun h=>h9 h.1)]; exact Sub.tup (.cons (Sub.agg (.cons (.refl _) (.cons (.nil _ _ _) .nil)) rfl) (.cons (.refl _) .nil)))
   ·have h9 : sgE (z - z2) = 0 := by have := ht33; unfold eqE at this; simpa using this
    refine gc g1 ?_;refine gC (fun ht43=>?_) (fun ht43=>?_)
    ·have h8:sgE z = 0:=aco ht43;refine gE2 ?_;unfold asq atf bbu bbx; rw [if_pos hd0,if_pos hd0,if_neg oz,if_neg oz,if_neg oz,bqe]; rfl
    ·have h8 : 0 < sgE z := by have : sgE z ≠ 0 := ac5 ht43; omega
     refine gR ?_;exact abc (by unfold asq atf bbu bbx; rw [if_pos hd0,if_pos hd0,if_neg oz,if_pos h8,if_pos ⟨h9,h8⟩]; exact Sub.tup (.cons aqc (.cons (.refl _) .nil)))
  ·have hd0:¬ sgE (d2E (x, y) (x2, y2)) = 0:=ac5 ht32;have ht0:sgE (d2E (x,y) (x2,y2) + d2E (x,y) (x2,y2)) ≠ 0:=by rw [<- a36,bhj tw]; exact hd0
   haveI zdd:Zu 4000 300000 (d2E (x,y) (x2,y2) + d2E (x,y) (x2,y2)) 321 328:=by have:=P.zt; rw [a36] at this; exact this
   haveI q1:Qz 4000 ((1:Int):Rat) 1:=Qz.int (c:=Cy.cx (c:=cy)) (by decide);obtain ⟨ov,zh⟩:=awq (ts:=ts) (u:=4000) (k:=300000) (a:=sh 0 (((1:Int):Rat):Rat)) (b:=sX (d2E (x,y) (x2,y2) + d2E (x,y) (x2,y2))) (j:=ts.length) zdd.nm.nl (le_refl _) hn ht0 (by decide);haveI:=zh;have zw1:Zu 4000 300000 (x2 - x) 80 81:=P.z1;have zw2:Zu 4000 300000 (y2 - y) 80 81:=P.z2;haveI:=zw1;haveI:=zw2;haveI zk:Zu 4000 300000 ((qE ((1:Int):Rat) * iE (d2E (x,y) (x2,y2) + d2E (x,y) (x2,y2))) * (z + d2E (x,y) (x2,y2) - z2)) _ _:=inferInstance;have w1:=apd (ts:=ts) (u:=4000) (k:=300000) (a:=sX x2) (b:=sX y2) (a2:=sX x) (b2:=sX y);have w2:=a0a (ts:=ts) (u:=4000) (k:=300000) (a:=sX (d2E (x,y) (x2,y2))) (b:=sX (d2E (x,y) (x2,y2)));have w3:=a0a (ts:=ts) (u:=4000) (k:=300000) (a:=sX z) (b:=sX (d2E (x,y) (x2,y2)));have w4:=amy (ts:=ts) (u:=4000) (k:=300000) (a:=sX (z + d2E (x,y) (x2,y2))) (b:=sX z2);have w5:=ahx (ts:=ts) (u:=4000) (k:=300000) (a:=sX (qE ((1:Int):Rat) * iE (d2E (x,y) (x2,y2) + d2E (x,y) (x2,y2)))) (b:=sX (z + d2E (x,y) (x2,y2) - z2));have w6:=aj8 (ts:=ts) (u:=4000) (k:=300000) (a:=sX ((qE ((1:Int):Rat) * iE (d2E (x,y) (x2,y2) + d2E (x,y) (x2,y2))) * (z + d2E (x,y) (x2,y2) - z2))) (a2:=sX (x2 - x)) (b2:=sX (y2 - y)) 700000000 (by decide) (by decide) (by decide) (by decide);have w7:=bar (ts:=ts) (u:=4000) (k:=300000) (a:=sX x) (b:=sX y) (a2:=sX (((qE ((1:Int):Rat) * iE (d2E (x,y) (x2,y2) + d2E (x,y) (x2,y2))) * (z + d2E (x,y) (x2,y2) - z2)) * (x2 - x))) (b2:=sX (((qE ((1:Int):Rat) * iE (d2E (x,y) (x2,y2) + d2E (x,y) (x2,y2))) * (z + d2E (x,y) (x2,y2) - z2)) * (y2 - y))) 700000000 (by decide) (by decide) (by decide) (by decide) (by decide);have w8:=axc (ts:=ts) (u:=4000) (k:=300000) (a:=sX (x2 - x)) (b:=sX (y2 - y)) (by decide);haveI zn:Zu 4000 300000 (0:Et ts) 0 0:=(azb (ts:=ts) (u:=4000) (k:=300000)).zu;have w9:=aj8 (ts:=ts) (u:=4000) (k:=300000) (a:=sX (qE ((1:Int):Rat) * iE (d2E (x,y) (x2,y2) + d2E (x,y) (x2,y2)))) (a2:=sX (0 - (y2 - y))) (b2:=sX (x2 - x)) 700000000 (by decide) (by decide) (by decide) (by decide);have f1:Nm ts.length 700000000 (sX (bq4 (x,y) (x2,y2) z z2).1):=(inferInstance:Zu 4000 300000 (x + ((qE ((1:Int):Rat) * iE (d2E (x,y) (x2,y2) + d2E (x,y) (x2,y2))) * (z + d2E (x,y) (x2,y2) - z2)) * (x2 - x)) _ _).nm.mono (by decide);have f2:Nm ts.length 700000000 (sX (bq4 (x,y) (x2,y2) z z2).2):=(inferInstance:Zu 4000 300000 (y + ((qE ((1:Int):Rat) * iE (d2E (x,y) (x2,y2) + d2E (x,y) (x2,y2))) * (z + d2E (x,y) (x2,y2) - z2)) * (y2 - y)) _ _).nm.mono (by decide);have f3:Nm ts.length 700000000 (sX (hvE (x,y) (x2,y2)).1):=(inferInstance:Zu 4000 300000 (qE ((1:Int):Rat) * iE (d2E (x,y) (x2,y2) + d2E (x,y) (x2,y2)) * (0 - (y2 - y))) _ _).nm.mono (by decide);have f4:Nm ts.length 700000000 (sX (hvE (x,y) (x2,y2)).2):=(inferInstance:Zu 4000 300000 (qE ((1:Int):Rat) * iE (d2E (x,y) (x2,y2) + d2E (x,y) (x2,y2)) * (x2 - x)) _ _).nm.mono (by decide);have hmt:=ays (X:=ajy (x,y) z (x2,y2) z2) tw hn P.zX f1 f2 f3 f4;have hrd:=bme (ts:=ts) (a:=sX x) (b:=sX y) (c:=sX z) (a2:=sX x2) (b2:=sX y2) (c2:=sX z2);refine gc w1 ?_;refine gc (akb 1 oz) ?_;refine gc w2 ?_;refine gc ov ?_;refine gD ?_;refine gc w3 ?_;refine gc w4 ?_;refine gc w5 ?_;refine gD ?_;refine gc w6 ?_;refine gc w7 ?_;refine gD ?_;refine gc w8 ?_;refine gc w9 ?_;refine gc hrd ?_;refine gc hmt ?_;refine gD ?_;refine gE2 ?_;rw [bcx hd0]; unfold atf; rw [if_neg hd0]; rfl
end
end Go.Lw
namespace Go.Lw
open Go.Proofs
section
variable {ts:LL}
theorem bes {p q c:P2 ts} {z:Et ts} {r:Nat} (tw:Tw ts r) (h0:¬ sgE (lnS p q) = 0):axj p q c z = bf0 (alE p (lnE p q c * iE (lnS p q)) (sbE q p)) (hlE p q) (lnX p q c z):=by
 unfold axj bf0;rw [if_neg h0,bmp,bod];have hc:sgE (lnX p q c z) = -1 \/ sgE (lnX p q c z) = 0 \/ sgE (lnX p q c z) = 1:=(aps (aae ts) ts.length tw.pos).cs (lnX p q c z)
 by_cases h1:sgE (lnX p q c z) < 0
 ·rw [if_pos h1,if_pos oz]
 ·rw [if_neg h1,if_neg oz]
theorem a4v {p q c:P2 ts} {z:Et ts} (tw:Tw ts 40000) (hn:ts.length <= 1) [c0:Ct ts 4000 300000] (h1:Zu 4000 300000 p.1 40 40) (h2:Zu 4000 300000 p.2 40 40) (h3:Zu 4000 300000 q.1 40 40) (h4:Zu 4000 300000 q.2 40 40) (h5:Zu 4000 300000 c.1 40 40) (h6:Zu 4000 300000 c.2 40 40) (h7:Zu 4000 300000 z 3 0) (s1:0 <= sgE z) :
  FnC prog 42 [aa5 ts,.agg [nA (sX c.1),nA (sX c.2),nA (sX z)],ptA (sX p.1) (sX p.2),ptA (sX q.1) (sX q.2)] (.tup [(axj p q c z).av,i64 (azv p q)]):=by
 haveI cy:Cy ts 4000 300000:=⟨c0.ex,by omega,by omega,by omega⟩
 have P:=a0h cy h1 h2 h3 h4 h5 h6 h7;haveI:=h1; haveI:=h2; haveI:=h3; haveI:=h4; haveI:=h5; haveI:=h6; haveI:=h7
 have g1:=agy (ts:=ts) (u:=4000) (k:=300000) (a:=sX z)
 have hrg := ao7 (ts := ts) [(sX c.1, sX c.2, sX z)] (by show 1 <= 2; omega) (fun q hq => by
  rw [List.mem_singleton.1 hq]; exact ⟨_,s1,g1⟩)
 have k1:=apd (ts:=ts) (u:=4000) (k:=300000) (a:=sX q.1) (b:=sX q.2) (a2:=sX p.1) (b2:=sX p.2);have k2:=apd (ts:=ts) (u:=4000) (k:=300000) (a:=sX c.1) (b:=sX c.2) (a2:=sX p.1) (b2:=sX p.2);haveI v1:Zu 4000 300000 (q.1 - p.1) 80 81:=P.v1;haveI v2:Zu 4000 300000 (q.2 - p.2) 80 81:=P.v2;haveI w1:Zu 4000 300000 (c.1 - p.1) 80 81:=P.w1;haveI w2:Zu 4000 300000 (c.2 - p.2) 80 81:=P.w2;have k3:=a34 (ts:=ts) (u:=4000) (k:=300000) (a:=sX (q.1 - p.1)) (b:=sX (q.2 - p.2)) (a2:=sX (q.1 - p.1)) (b2:=sX (q.2 - p.2));have k4:=a34 (ts:=ts) (u:=4000) (k:=300000) (a:=sX (q.1 - p.1)) (b:=sX (q.2 - p.2)) (a2:=sX (c.1 - p.1)) (b2:=sX (c.2 - p.2));have k5:=a12 (ts:=ts) (u:=4000) (k:=300000) (a:=sX (q.1 - p.1)) (b:=sX (q.2 - p.2)) (a2:=sX (c.1 - p.1)) (b2:=sX (c.2 - p.2));haveI:=P.zs; haveI:=P.ze; haveI:=P.zc
 have g2:=agy (ts:=ts) (u:=4000) (k:=300000) (a:=sX (lnS p q));have t1:=ahx (ts:=ts) (u:=4000) (k:=300000) (a:=sX (lnS p q)) (b:=sX z);have t2:=ahx (ts:=ts) (u:=4000) (k:=300000) (a:=sX (lnC p q c)) (b:=sX (lnC p q c));have t3:=amy (ts:=ts) (u:=4000) (k:=300000) (a:=sX (lnS p q * z)) (b:=sX (lnC p q c * lnC p q c));refine gF0 func42 ?_;refine gc hrg ?_;refine gC (fun ht22=>?_) (fun ht22=>?_) (st1:=(3,0))
 ·cases ht22
 ·refine gc k1 ?_;refine gc k2 ?_;refine gD ?_;refine gc k3 ?_;refine gc g2 ?_;refine gC (fun ht41=>?_) (fun ht41=>?_)
  ·have hd0:sgE (lnS p q) = 0:=aco ht41;refine gR ?_;exact abc (by unfold axj azv; rw [if_pos hd0,if_pos hd0]; exact Sub.tup (.cons aqc (.cons (.refl _) .nil)))
  ·have hd0:¬ sgE (lnS p q) = 0:=ac5 ht41;haveI q1:Qz 4000 ((1:Int):Rat) 1:=Qz.int (c:=Cy.cx (c:=cy)) (by decide);obtain ⟨ov,zh⟩:=awq (ts:=ts) (u:=4000) (k:=300000) (a:=sh 0 (((1:Int):Rat):Rat)) (b:=sX (lnS p q)) (j:=ts.length) P.zs.nm.nl (le_refl _) hn hd0 (by decide);obtain ⟨ow,ze⟩:=awq (ts:=ts) (u:=4000) (k:=300000) (a:=sX (lnE p q c)) (b:=sX (lnS p q)) (j:=ts.length) P.zs.nm.nl (le_refl _) hn hd0 (by decide);haveI:=zh; haveI:=ze
   have w6:=aj8 (ts:=ts) (u:=4000) (k:=300000) (a:=sX (lnE p q c * iE (lnS p q))) (a2:=sX (q.1 - p.1)) (b2:=sX (q.2 - p.2)) 700000000 (by decide) (by decide) (by decide) (by decide);have w7:=bar (ts:=ts) (u:=4000) (k:=300000) (a:=sX p.1) (b:=sX p.2) (a2:=sX (lnE p q c * iE (lnS p q) * (q.1 - p.1))) (b2:=sX (lnE p q c * iE (lnS p q) * (q.2 - p.2))) 700000000 (by decide) (by decide) (by decide) (by decide) (by decide);have w9:=aj8 (ts:=ts) (u:=4000) (k:=300000) (a:=sX (qE ((1:Int):Rat) * iE (lnS p q))) (a2:=sX (q.1 - p.1)) (b2:=sX (q.2 - p.2)) 700000000 (by decide) (by decide) (by decide) (by decide);have f1:Nm ts.length 700000000 (sX (alE p (lnE p q c * iE (lnS p q)) (sbE q p)).1):=(inferInstance:Zu 4000 300000 (p.1 + lnE p q c * iE (lnS p q) * (q.1 - p.1)) _ _).nm.mono (by decide);have f2:Nm ts.length 700000000 (sX (alE p (lnE p q c * iE (lnS p q)) (sbE q p)).2):=(inferInstance:Zu 4000 300000 (p.2 + lnE p q c * iE (lnS p q) * (q.2 - p.2)) _ _).nm.mono (by decide);have f3:Nm ts.length 700000000 (sX (hlE p q).1):=(inferInstance:Zu 4000 300000 (qE ((1:Int):Rat) * iE (lnS p q) * (q.1 - p.1)) _ _).nm.mono (by decide);have f4:Nm ts.length 700000000 (sX (hlE p q).2):=(inferInstance:Zu 4000 300000 (qE ((1:Int):Rat) * iE (lnS p q) * (q.2 - p.2)) _ _).nm.mono (by decide);have hmt:=ays (X:=lnX p q c z) tw hn ⟨P.zX.nm.mono (by decide)⟩ f1 f2 f3 f4;refine gc k5 ?_;refine gc t1 ?_;refine gc t2 ?_;refine gc t3 ?_;refine gD ?_;refine gc k4 ?_;refine gc ow ?_;refine gc w6 ?_;refine gc w7 ?_;refine gD ?_;refine gc (akb 1 oz) ?_;refine gc ov ?_;refine gc w9 ?_;refine gc hmt ?_;refine gD ?_;refine gE2 ?_;rw [bes tw hd0]; unfold azv; rw [if_neg hd0]; rfl
theorem aor (i n:Nat) (hi:i <= 100):FnC prog 44 [i64 i, i64 n] (i64 (if n = 1 then 0 else 1 - 2 * (i:Int))):=by
 refine gF0 func44 ?_;refine gC (fun ht6=>?_) (fun ht6=>?_)
 ·have h1 : n = 1 := by have := aco ht6; omega
  refine gE1 ?_;rw [if_pos h1]; rfl
 ·have h1 : ¬ n = 1 := by have := ac5 ht6; omega
  refine ga (show _ = 2 * (i:Int) by exact ap2 oz) ?_;refine ga (show _ = 1 - 2 * (i:Int) by exact abi oz) ?_;refine gE1 ?_;rw [if_neg h1]; rfl
structure RbP (ts:LL) (u:Rat × Rat) (w:P2 ts) (p:Rat × Rat) (o:P2 ts):Prop where
  nn:FnC prog 101 [aa5 ts,qN u,qN u] (nA (sh 0 (aht u u:Rat)))
  dot:FnC prog 101 [aa5 ts,qN u,lpA w.l] (nA (sX (qE u.1 * w.1 + qE u.2 * w.2)))
  crs:FnC prog 102 [aa5 ts,qN u,lpA w.l] (nA (sX (qE u.1 * w.2 - qE u.2 * w.1)))
  d1:FnC prog 117 [aa5 ts,nA (sX (qE u.1 * w.1 + qE u.2 * w.2)),nA (sh 0 (aht u u:Rat))] (nA (sX (an6 u w)))
  d2:FnC prog 117 [aa5 ts,nA (sX (qE u.1 * w.2 - qE u.2 * w.1)),nA (sh 0 (aht u u:Rat))] (nA (sX (bdS u w)))
  tn:FnC prog 39 [aa5 ts,nA (sX (an6 u w)),nA (sX (bdS u w)),qN p] (ptA (sX (an6 u w * qE p.1 - bdS u w * qE p.2)) (sX (bdS u w * qE p.1 + an6 u w * qE p.2)))
  sb:FnC prog 38 [aa5 ts,lpA o.l,ptA (sX (an6 u w * qE p.1 - bdS u w * qE p.2)) (sX (bdS u w * qE p.1 + an6 u w * qE p.2))] (ptA (sX (bdX u w p o)) (sX (bdY u w p o)))
theorem ar7 (q:Rat):sX (qE q:Et ts) = sh 0 (q:Rat):=a22 _ _
theorem bls (u v:Rat × Rat):ptA (sX (qE u.1 - qE v.1:Et ts)) (sX (qE u.2 - qE v.2:Et ts)) = qN (afp u v):=by
 have h:∀ a b:Rat,(qE a - qE b:Et ts) = qE (a - b):=fun a b=>(a13 a b).symm
 rw [h,h,ar7,ar7]; rfl
theorem a99 {r:Nat} {u p:Rat × Rat} {w o:P2 ts} (tw:Tw ts r) (h2:ts.length <= 2) (hk:kB r ts.length <= 1000000000) (hu:Sm 3000 u) (hp:Sm 3000 p) (h0:aht u u ≠ 0)
  (w1:Nm ts.length 16000000000 (sX w.1)) (w2:Nm ts.length 16000000000 (sX w.2)) (a1:Nm ts.length 700000000 (sX o.1)) (a2:Nm ts.length 700000000 (sX o.2)):RbP ts u w p o:=by
 have hl:lm ts.length = 200000000000:=by unfold lm; rw [if_pos h2]
 have h5:=tw.five;have hu1:=aj1 (ts:=ts) h5 hu.x;have hu2:=aj1 (ts:=ts) h5 hu.y;have hp1:=aj1 (ts:=ts) h5 hp.x;have hp2:=aj1 (ts:=ts) h5 hp.y;have hnn:=aj1 (ts:=ts) h5 (hu.dot hu);have hkE:eB r ts.length <= 1000000000:=hk;have ew:∀ x:Et ts,dec ts.length (sX x) = x:=fun x=>aa4 _ _
 have c0:=asa tw (hu1.mono (f:=16000000000) oz) (hu2.mono oz) (hu1.mono oz) (hu2.mono oz) (by rw [hl]; omega);have c1:=asa tw (hu1.mono (f:=16000000000) oz) (hu2.mono oz) w1 w2 (by rw [hl]; omega);have c2:=aqi tw (hu1.mono (f:=16000000000) oz) (hu2.mono oz) w1 w2 (by rw [hl]; omega);have n1:=a9m tw hu1 hu2 w1 w2;have n2:=avl tw hu1 hu2 w1 w2;rw [afo,afo,ew,ew] at c1 c2 n1 n2;rw [afo,afo] at c0
 have ed:sh ts.length (bbv ts (qE u.1:Et ts) (qE u.2:Et ts) (qE u.1:Et ts) (qE u.2:Et ts)) = sh 0 (aht u u:Rat):=by
  have h:(bbv ts (qE u.1:Et ts) (qE u.2:Et ts) (qE u.1:Et ts) (qE u.2:Et ts)) = (qE (aht u u):Et ts):=by
   show (qE u.1 * qE u.1 + qE u.2 * qE u.2:Et ts) = qE (u.1 * u.1 + u.2 * u.2);rw [a9o,atv,atv]
  rw [h];exact ar7 _
 rw [ed] at c0
 have hs:T.sgn (aae ts) ts.length (dec ts.length (sh 0 (aht u u:Rat))) ≠ 0:=by
  rw [ai6,T.sgn_ofQ];intro h9;exact h0 (afg h9)
 have nb:Nl 0 (sh 0 (aht u u:Rat)):=ahs 0 _;have d1:=aoe tw n1 hnn (zero_le _) nb hs (by rw [hl]; omega) (by simp only [iB]; omega);have d2:=aoe tw n2 hnn (zero_le _) nb hs (by rw [hl]; omega) (by simp only [iB]; omega);have m1:=ayh tw n1 hnn (zero_le _) nb hs (by rw [hl]; omega) (by simp only [iB]; omega);have m2:=ayh tw n2 hnn (zero_le _) nb hs (by rw [hl]; omega) (by simp only [iB]; omega);have f1:dec ts.length (sh ts.length (bbv ts (qE u.1:Et ts) (qE u.2:Et ts) w.1 w.2)) = (qE u.1 * w.1 + qE u.2 * w.2:Et ts):=aa4 _ _;have f2:dec ts.length (sh ts.length (ao8 ts (qE u.1:Et ts) (qE u.2:Et ts) w.1 w.2)) = (qE u.1 * w.2 - qE u.2 * w.1:Et ts):=aa4 _ _;rw [f1,afo] at d1 m1;rw [f2,afo] at d2 m2;have k1:Nm ts.length 35100000000 (sX (an6 u w)):=Nm.mono m1 (by simp only [iB]; omega);have k2:Nm ts.length 35100000000 (sX (bdS u w)):=Nm.mono m2 (by simp only [iB]; omega);have c3:=aue tw k1 k2 (hp1.mono (f:=35100000000) oz) (hp2.mono oz) (by rw [hl]; omega);have n3:=amr tw k1 k2 hp1 hp2;have n4:=ang tw k1 k2 hp1 hp2;rw [afo,afo,ew,ew] at c3 n3 n4;have s1:=aka tw (a1.mono (f:=80000000000) oz) (a2.mono oz) (n3.mono oz) (n4.mono oz) (by rw [hl]; omega);have f3:dec ts.length (sh ts.length (a02 ts (an6 u w) (bdS u w) (qE p.1:Et ts) (qE p.2:Et ts))) = (an6 u w * qE p.1 - bdS u w * qE p.2:Et ts):=aa4 _ _;have f4:dec ts.length (sh ts.length (azz ts (an6 u w) (bdS u w) (qE p.1:Et ts) (qE p.2:Et ts))) = (bdS u w * qE p.1 + an6 u w * qE p.2:Et ts):=aa4 _ _;rw [ew,ew,f3,f4] at s1;exact ⟨c0,c1,c2,d1,d2,c3,s1⟩
theorem ayn {u p:Rat × Rat} {w o:P2 ts} (B:RbP ts u w p o):FnC prog 118 [aa5 ts, qN u, lpA w.l, qN p, lpA o.l] (bdQ u w p o).av:=by
 refine gF0 func118 ?_;refine gc B.nn ?_;refine gc B.dot ?_;refine gc B.d1 ?_;refine gc B.crs ?_;refine gc B.d2 ?_;refine gD ?_;refine gc B.tn ?_;refine gc B.sb ?_;refine gD ?_;refine gD ?_;refine gE1 ?_;rfl
end
structure RHd (T:LL) (x:List Rat × List Rat) (h:Hd):Prop where
  u:FnC prog 38 [aa5 T,qN h.c,qN h.p] (qN (afp h.c h.p))
  w:FnC prog 38 [aa5 T,lpA x,ptA h.a.1 h.a.2] (lpA (hdW T h x).l)
  put:FnC prog 118 [aa5 T,qN (afp h.c h.p),lpA (hdW T h x).l,qN h.p,ptA h.a.1 h.a.2] (hdQ T x h).av
theorem bbr {ts:LL} {m:Mt} (ok:MtOk ts m) {x:List Rat × List Rat} (hx:x ∈ m.ps) {p c:Rat × Rat} {o:P2 ts} (a1:Nm ts.length 700000000 (sX o.1)) (a2:Nm ts.length 700000000 (sX o.2)) (hp:Sm 1000 p) (hc:Sm 1000 c)
  (h0:aht (afp c p) (afp c p) ≠ 0):RHd m.ts x ⟨p,o.l,c⟩:=by
 obtain ⟨r,tw,hk⟩:=ok.tw;obtain ⟨n1,n2⟩:=ok.ps x hx;obtain ⟨b1,e1⟩:=ok.up _ _ a1;obtain ⟨b2,e2⟩:=ok.up _ _ a2;have hl:lm m.ts.length = 200000000000:=by unfold lm; rw [if_pos ok.two]
 have h5:=tw.five;have q1:=aj1 (ts:=m.ts) h5 hc.x;have q2:=aj1 (ts:=m.ts) h5 hc.y;have q3:=aj1 (ts:=m.ts) h5 hp.x;have q4:=aj1 (ts:=m.ts) h5 hp.y;have hu:=aka tw q1 q2 q3 q4 (by rw [hl]; omega);rw [afo,afo,afo,afo] at hu;have hu2:FnC prog 38 [aa5 m.ts,qN c,qN p] (qN (afp c p)):=by rw [<- bls (ts:=m.ts)]; exact hu
 have hw:=aka tw n1 n2 (b1.mono (f:=15000000000) oz) (b2.mono oz) (by rw [hl]; omega)
 have B:RbP m.ts (afp c p) (hdW m.ts ⟨p, o.l, c⟩ x) p (hdO m.ts ⟨p, o.l, c⟩):=a99 tw ok.two hk ((hc.sub hp).mono oz) (hp.mono oz) h0 ((n1.sub b1).mono oz) ((n2.sub b2).mono oz)
  (by show Nm m.ts.length 700000000 (sX (dE m.ts (sX o.1))); rw [e1]; exact b1) (by show Nm m.ts.length 700000000 (sX (dE m.ts (sX o.2))); rw [e2]; exact b2)
 have hpt:=ayn B
 have e:lpA (hdO m.ts ⟨p, o.l, c⟩).l = ptA (sX o.1) (sX o.2):=by
  show ptA (sX (dE m.ts (sX o.1))) (sX (dE m.ts (sX o.2))) = _;rw [e1,e2]
 rw [e] at hpt;exact ⟨hu2,hw,hpt⟩
theorem avy {l:Li} {a:As} {i k:Int} {j0 j1 j2:Jt} {T:LL} {x:List Rat × List Rat} (H0:RHd T x ⟨aak l j0 i, P2.l (aa1 l a j0 i), aak l j2 i⟩) (H1:RHd T x ⟨aak l j1 k, P2.l (aa1 l a j1 k), aak l j2 k⟩) :
  FnC prog 43 [aa5 T,.agg (v1C l a i k j0 j1 j2),lpA x] (.lst 4 [(hdQ T x ⟨aak l j0 i,P2.l (aa1 l a j0 i),aak l j2 i⟩).av,(hdQ T x ⟨aak l j1 k,P2.l (aa1 l a j1 k),aak l j2 k⟩).av]):=by
 refine gF0 func43 ?_;refine gc H0.u ?_;refine gc H0.w ?_;refine gc H0.put ?_ (1,18);refine gs (a5k rfl (ev1 rfl) T37 rfl T67 rfl rfl rfl rfl rfl rfl rfl rfl) ?_;refine gD ?_;refine gC (fun ht28=>?_) (fun ht28=>?_) (st2:=(77777,0))
 ·refine gc H1.u ?_;refine gc H1.w ?_;refine gc H1.put ?_;refine gs (aep (.tmp rfl) rfl rfl (.tmp rfl) T37 rfl T67 rfl rfl (by simp only [length_cons,length_nil]; omega) rfl rfl) ?_;refine gD ?_;refine gE1 ?_;rfl
 ·cases ht28
theorem awj {l:Li} {a:As} {i:Int} {j0 j:Jt} {T:LL} {x:List Rat × List Rat} (H0:RHd T x ⟨aak l j0 i, P2.l (aa1 l a j0 i), mkQ l i j.point⟩) :
  FnC prog 43 [aa5 T,.agg (v2C l a i j0 j),lpA x] (.lst 4 [(hdQ T x ⟨aak l j0 i,P2.l (aa1 l a j0 i),mkQ l i j.point⟩).av]):=by
 refine gF0 func43 ?_;refine gc H0.u ?_;refine gc H0.w ?_;refine gc H0.put ?_;refine gD ?_;refine gC (fun ht28=>?_) (fun ht28=>?_) (st1:=(3,0))
 ·cases ht28
 ·refine gE1 ?_;rfl
end Go.Lw
namespace Go.Lw
open Go.Proofs
section
variable {T:LL}
abbrev rrX (T:LL) (R:Rp) (q:List Rat):Et T:=dE T q * dE T R.w.1 - dE T R.h * (0 - dE T R.w.2)
abbrev rrY (T:LL) (R:Rp) (q:List Rat):Et T:=dE T q * dE T R.w.2 - dE T R.h * dE T R.w.1
structure RRq (T:LL) (R:Rp) (q:List Rat):Prop where
  c1:FnC prog 115 [aa5 T,nA q,ptA R.w.1 R.w.2] (ptA (sX (dE T q * dE T R.w.1)) (sX (dE T q * dE T R.w.2)))
  qt:FnC prog 116 [aa5 T,ptA R.w.1 R.w.2] (ptA (sX (0 - dE T R.w.2)) R.w.1)
  c2:FnC prog 115 [aa5 T,nA R.h,ptA (sX (0 - dE T R.w.2)) R.w.1] (ptA (sX (dE T R.h * (0 - dE T R.w.2))) (sX (dE T R.h * dE T R.w.1)))
  sb:FnC prog 38 [aa5 T,ptA (sX (dE T q * dE T R.w.1)) (sX (dE T q * dE T R.w.2)),ptA (sX (dE T R.h * (0 - dE T R.w.2))) (sX (dE T R.h * dE T R.w.1))] (ptA (sX (rrX T R q)) (sX (rrY T R q)))
  ov:FnC prog 117 [aa5 T,nA (sh 0 (((1:Int):Rat):Rat)),nA R.d] (nA (sX (qE ((1:Int):Rat) * iE (dE T R.d))))
  c3:FnC prog 115 [aa5 T,nA (sX (qE ((1:Int):Rat) * iE (dE T R.d))),ptA (sX (rrX T R q)) (sX (rrY T R q))] (lpA (rqV T q R.h R.d R.w).l)
  put:FnC prog 118 [aa5 T,qN R.v,lpA (rqV T q R.h R.d R.w).l,qN R.p,ptA R.a.1 R.a.2] (rqQ T R q).av
theorem bf5 {R:Rp} {q:List Rat} {j:Nat} (cy:Cy T 700000000 1000000000) (sm:Sm 3000 R.v) (sp:Sm 3000 R.p) (h0:aht R.v R.v ≠ 0) (nq:Nm T.length 700000000 q) (nh:Nm T.length 700000000 R.h) (nd:Nm T.length 700000000 R.d)
  (n1:Nm T.length 700000000 R.w.1) (n2:Nm T.length 700000000 R.w.2) (a1:Nm T.length 700000000 R.a.1) (a2:Nm T.length 700000000 R.a.2) (e1:sX (dE T R.a.1) = R.a.1) (e2:sX (dE T R.a.2) = R.a.2)
  (nj:Nl j R.d) (hj:j <= T.length) (hj1:j <= 1) (hd:sgE (dE T R.d) ≠ 0):RRq T R q:=by
 obtain ⟨r,tw,hk⟩:=cy.ex;haveI:=cy;haveI zq:Zl T 700000000 1000000000 q (dE T q) 1 0:=Zl.at nq (le_refl _);haveI zh:Zl T 700000000 1000000000 R.h (dE T R.h) 1 0:=Zl.at nh (le_refl _);haveI zd:Zl T 700000000 1000000000 R.d (dE T R.d) 1 0:=Zl.at nd (le_refl _);haveI z1:Zl T 700000000 1000000000 R.w.1 (dE T R.w.1) 1 0:=Zl.at n1 (le_refl _);haveI z2:Zl T 700000000 1000000000 R.w.2 (dE T R.w.2) 1 0:=Zl.at n2 (le_refl _);haveI:=zq.zu; haveI:=zh.zu; haveI:=z1.zu; haveI:=z2.zu
 haveI z0:Zu 700000000 1000000000 (0:Et T) 0 0:=(azb (ts:=T) (u:=700000000) (k:=1000000000)).zu;haveI q1:Qz 700000000 ((1:Int):Rat) 1:=Qz.int (c:=Cy.cx (c:=cy)) (by decide);haveI zo:Zl T 700000000 1000000000 (sh 0 (((1:Int):Rat):Rat)) (qE ((1:Int):Rat)) 1 0:=Cy.zq;have c1:=aj8 (ts:=T) (u:=700000000) (k:=1000000000) (a:=q) (a2:=R.w.1) (b2:=R.w.2) 700000000 (by decide) (by decide) (by decide) (by decide);have qt:=axc (ts:=T) (u:=700000000) (k:=1000000000) (a:=R.w.1) (b:=R.w.2) (by decide);have c2:=aj8 (ts:=T) (u:=700000000) (k:=1000000000) (a:=R.h) (a2:=sX (0 - dE T R.w.2)) (b2:=R.w.1) 2000000000 (by decide) (by decide) (by decide) (by decide);have sb:=a7d (ts:=T) (u:=700000000) (k:=1000000000) (a:=sX (dE T q * dE T R.w.1)) (b:=sX (dE T q * dE T R.w.2)) (a2:=sX (dE T R.h * (0 - dE T R.w.2))) (b2:=sX (dE T R.h * dE T R.w.1)) 10000000000 (by decide) (by decide) (by decide) (by decide) (by decide);obtain ⟨ov,zv⟩:=awq (ts:=T) (u:=700000000) (k:=1000000000) (a:=sh 0 (((1:Int):Rat):Rat)) (b:=R.d) nj hj hj1 hd (by decide);haveI:=zv;have c3:=aj8 (ts:=T) (u:=700000000) (k:=1000000000) (a:=sX (qE ((1:Int):Rat) * iE (dE T R.d))) (a2:=sX (rrX T R q)) (b2:=sX (rrY T R q)) 10000000000 (by decide) (by decide) (by decide) (by decide);have m1:Nm T.length 16000000000 (sX (qE ((1:Int):Rat) * iE (dE T R.d) * rrX T R q)):=(inferInstance:Zu 700000000 1000000000 (qE ((1:Int):Rat) * iE (dE T R.d) * (dE T q * dE T R.w.1 - dE T R.h * (0 - dE T R.w.2))) _ _).nm.mono (by decide);have m2:Nm T.length 16000000000 (sX (qE ((1:Int):Rat) * iE (dE T R.d) * rrY T R q)):=(inferInstance:Zu 700000000 1000000000 (qE ((1:Int):Rat) * iE (dE T R.d) * (dE T q * dE T R.w.2 - dE T R.h * dE T R.w.1)) _ _).nm.mono (by decide)
 have k1:qE ((1:Int):Rat) * iE (dE T R.d) * rrX T R q = (rqV T q R.h R.d R.w).1:=by
  show qE ((1:Int):Rat) * iE (dE T R.d) * (dE T q * dE T R.w.1 - dE T R.h * (0 - dE T R.w.2)) = (dE T q * dE T R.w.1 - dE T R.h * -dE T R.w.2) * iE (dE T R.d);rw [aln]; grind
 have k2:qE ((1:Int):Rat) * iE (dE T R.d) * rrY T R q = (rqV T q R.h R.d R.w).2:=by
  show qE ((1:Int):Rat) * iE (dE T R.d) * (dE T q * dE T R.w.2 - dE T R.h * dE T R.w.1) = (dE T q * dE T R.w.2 - dE T R.h * dE T R.w.1) * iE (dE T R.d);rw [aln]; grind
 rw [k1] at m1;rw [k2] at m2;rw [k1,k2] at c3;have hpt:=ayn (a99 (w:=rqV T q R.h R.d R.w) (o:=(dE T R.a.1,dE T R.a.2)) tw cy.two hk sm sp h0 m1 m2 (by show Nm T.length 700000000 (sX (dE T R.a.1)); rw [e1]; exact a1) (by show Nm T.length 700000000 (sX (dE T R.a.2)); rw [e2]; exact a2))
 have e:lpA (P2.l ((dE T R.a.1, dE T R.a.2):P2 T)) = ptA R.a.1 R.a.2:=by
  show ptA (sX (dE T R.a.1)) (sX (dE T R.a.2)) = _;rw [e1,e2]
 rw [e] at hpt;exact ⟨c1,qt,c2,sb,ov,c3,hpt⟩
end
abbrev v3K (l:Li) (a:As) (i:Int) (j0 j:Jt):List AV :=
  [i64 3, i64 i, i64 0] ++ (eNC (aa1 l a j0 i) ++ (eNC (plE l a j.a j.point) ++ (qNC (aak l j0 i) ++ (z2C ++ (z2C ++ (z2C ++ (qNC (mkQ l i j.on) ++ (qNC (mkQ l i j.to) ++
    ([nl,nl] ++ (qNC (rpV l i j) ++ [nA (sh 0 (rpH l i j0 j:Rat)),nA (sh 0 (rpN l i j:Rat)),nA (sX (rpD l a i j0 j))]))))))))))
theorem bmc (l:Li) (a:As) (i:Int) (j0 j:Jt):AV.agg (v3C l a i j0 j) = .agg (v3K l a i j0 j):=by
 have e1:(a58 (sbE (qv (mkQ l i j.to)) (qv (mkQ l i j.on))) (sbE (qv (mkQ l i j.on)) (qv (aak l j0 i))):Et (llq a.rs)) = qE (rpH l i j0 j):=by rw [aju,aju,a2o]; rfl
 have e2:(azw (sbE (qv (mkQ l i j.to)) (qv (mkQ l i j.on))) (sbE (qv (mkQ l i j.to)) (qv (mkQ l i j.on))):Et (llq a.rs)) = qE (rpN l i j):=by rw [aju,axr]; rfl
 have e3:(sbE (qv (mkQ l i j.to)) (qv (mkQ l i j.on)):Et (llq a.rs) × Et (llq a.rs)) = qv (rpV l i j):=by rw [aju]; rfl
 unfold v3C v3K;rw [e1,e2,e3,ar7,ar7,show eNC (qv (rpV l i j):Et (llq a.rs) × Et (llq a.rs)) = qNC (rpV l i j) by show [nA (sX (qE (rpV l i j).1:Et (llq a.rs))),nA (sX (qE (rpV l i j).2:Et (llq a.rs)))] = _; rw [ar7,ar7]];rfl
theorem biu {l:Li} {a:As} {i z0 z1:Int} {j0 j:Jt} (P:SlP l a ⟨3, [i], [z0, z1], 0⟩ 3 i z0 z1 j0 j):a5x l a ⟨3, [i], [z0, z1], 0⟩ = rpX l a i j0 j:=by
 rw [bg0 P,aju,aju,axr,a2o]; rfl
theorem ay3 {l:Li} {a:As} (D:DyR l a) (hn:(llq a.rs).length <= 1) {i z0 z1:Int} {j0 j:Jt} (P:SlP l a ⟨3, [i], [z0, z1], 0⟩ 3 i z0 z1 j0 j) (hj:j.b = i) (hb:Pd a j.a) :
  FnC prog 40 [aa5 (llq a.rs),.agg (v3K l a i j0 j)] (.tup [.lst 3 (rpR l a i j0 j).1,i64 (rpR l a i j0 j).2]):=by
 haveI c:=D.al.ct D.hc;obtain ⟨tw,etw⟩:=abr D.al.tr D.hc;have ck:=c.k1;haveI cy:Cy (llq a.rs) 4000 300000:=⟨c.ex,c.k1,c.u3,by omega⟩
 have hlm:=cy.lm;have F:=a7g D hn P hj hb;obtain ⟨i1,i2,i3,i4,i5⟩:=afv D.li P.h1;obtain ⟨y3,y4⟩:=agu D.hl D.li D.al D.hc i1 i3 hb;haveI z3:=F.z3;haveI zX:=F.zX;haveI zl:=F.zl;haveI:=y3; haveI:=y4
 haveI y1:=F.y1;haveI y2:=F.y2;have sD:=agy (ts:=llq a.rs) (u:=4000) (k:=300000) (a:=sX (rpD l a i j0 j));have sH:=agy (ts:=llq a.rs) (u:=4000) (k:=300000) (a:=sh 0 (rpH l i j0 j:Rat));have sX9:=agy (ts:=llq a.rs) (u:=4000) (k:=300000) (a:=sX (rpX l a i j0 j));have hrd:=a4m D P hj hb;rw [biu P,bmc,etw] at hrd;have hwy:=apd (ts:=llq a.rs) (u:=4000) (k:=300000) (a:=sX (plE l a j.a j.point).1) (b:=sX (plE l a j.a j.point).2) (a2:=sX (aa1 l a j0 i).1) (b2:=sX (aa1 l a j0 i).2);refine gF0 func40 ?_;refine gc sD ?_;refine gC (fun ht20=>?_) (fun ht20=>?_)
 ·have hd0:sgE (rpD l a i j0 j) = 0:=aco ht20;refine gc sH ?_;refine gC (fun ht25=>?_) (fun ht25=>?_)
  ·have hh:sgE (qE (rpH l i j0 j):Et (llq a.rs)) = 0:=aco ht25;refine gR ?_;exact abc (by unfold rpR; rw [if_pos ⟨hd0,hh⟩]; exact Sub.tup (.cons (.nil _ _ _) (.cons (.refl _) .nil)))
  ·have hh:¬ sgE (qE (rpH l i j0 j):Et (llq a.rs)) = 0:=ac5 ht25;have h2:sgE (rpX l a i j0 j) < 0:=Decidable.byContradiction fun h9=>bi7 tw h9 (fun h=>hh h.2) hd0
   refine gR ?_;exact abc (by unfold rpR; rw [if_neg (fun h=>hh h.2),if_pos h2]; exact Sub.tup (.cons (.nil _ _ _) (.cons (.refl _) .nil)))
 ·have hd0:sgE (rpD l a i j0 j) ≠ 0:=ac5 ht20;refine gc hrd ?_;refine gc sX9 ?_ (12,0);refine gJ2 [2,3] [3] (fun (T:LL) (qs:LL)=>[(7,some (.lst 1 (qs.map nA)))]) (fun T _=>[(2,some (.box [.lst 1 (T.map nA)]))]) (fun T qs=>qs.length <= 2 /\ (∀ q ∈ qs,RRq T (rpP l a i j0 j) q) /\ FnC prog 38 [aa5 T,eN (plE l a j.a j.point),eN (aa1 l a j0 i)] (ptA (sX (rpW l a i j0 j).1) (sX (rpW l a i j0 j).2)) /\ rpR l a i j0 j = (rqL T (rpP l a i j0 j) qs qs.length,0)) ?_ ?_ 2
  ·intro K1 hK1;refine gC (fun ht48=>?_) (fun ht48=>?_)
   ·have h2 : sgE (rpX l a i j0 j) < 0 := by have := aco ht48; omega
    refine gR ?_;exact abc (by unfold rpR; rw [if_neg (fun h=>hd0 h.1),if_pos h2]; exact Sub.tup (.cons (.nil _ _ _) (.cons (.refl _) .nil)))
   ·have h2:¬ sgE (rpX l a i j0 j) < 0:=by
     have h9:=ac5 ht48;have hc:sgE (rpX l a i j0 j) = -1 \/ sgE (rpX l a i j0 j) = 0 \/ sgE (rpX l a i j0 j) = 1:=(aps (aae (llq a.rs)) (llq a.rs).length tw.pos).cs (rpX l a i j0 j);omega
    refine gC (fun ht50=>?_) (fun ht50=>?_)
    ·have h3 : ¬ 0 < sgE (rpX l a i j0 j) := by have := aco ht50; omega
     have R0:RRq (llq a.rs) (rpP l a i j0 j) []:=by
      have cs:Cy (llq a.rs) 700000000 1000000000:=⟨⟨40000,tw,by show kB 40000 (llq a.rs).length <= _; have:=kb4 tw.three; omega⟩,by omega,by omega,by omega⟩
      have nil0:Nm (llq a.rs).length 700000000 []:=⟨tw.five,.inl rfl,Cb.nil.mono oz⟩
      exact bf5 (R := rpP l a i j0 j) (j := (llq a.rs).length) cs F.hv F.hp F.vv nil0 (F.zl.nm.mono (by decide)) (F.z3.nm.mono (by decide)) (F.w1.nm.mono (by decide)) (F.w2.nm.mono (by decide))
       (F.y1.nm.mono (by decide)) (F.y2.nm.mono (by decide)) (ast _ _ F.y1.nm).2 (ast _ _ F.y2.nm).2 F.z3.nm.nl (le_refl _) hn (by rw [show sgE (dE (llq a.rs) (rpP l a i j0 j).d) = sgE (rpD l a i j0 j) from congrArg sgE (aa4 _ _)]; exact hd0)
     exact jK2 hK1 (llq a.rs) ([[]]) ⟨by decide,a9k R0,hwy,by unfold rpR; rw [if_neg (fun h=>hd0 h.1),if_neg h2,if_neg h3]; rfl⟩ (hw:=Wk.of (.cons rfl a27 (.k (.k .nil))) (.k (.k .nil)))
    ·have h3:0 < sgE (rpX l a i j0 j):=by
      have h9:¬ sgE (rpX l a i j0 j) = 0:=ac5 ht50;omega
     have E:ExtP (rpX l a i j0 j):=ame tw hn F.zX oz;haveI ce:=E.cy;have zr:Nm (ab2 (llq a.rs) (sX (rpX l a i j0 j))).length 700000000 (adb (llq a.rs).length):=(aov oz).mono (by decide);haveI zrl:Zl (ab2 (llq a.rs) (sX (rpX l a i j0 j))) 700000000 1000000000 (adb (llq a.rs).length) (lnR (rpX l a i j0 j)) 1 0:=Zl.at zr (by decide);haveI:=zrl.zu;have zn:Nm (ab2 (llq a.rs) (sX (rpX l a i j0 j))).length 700000000 (sX (-lnR (rpX l a i j0 j))):=(inferInstance:Zu 700000000 1000000000 (-lnR (rpX l a i j0 j)) 1 0).nm.mono (by decide)
     have hR:∀ q, Nm (ab2 (llq a.rs) (sX (rpX l a i j0 j))).length 700000000 q -> RRq (ab2 (llq a.rs) (sX (rpX l a i j0 j))) (rpP l a i j0 j) q:=fun q nq =>
      bf5 (R := rpP l a i j0 j) (j := (llq a.rs).length) ce F.hv F.hp F.vv nq (afs (F.zl.nm.mono (by decide)) oz) (afs (F.z3.nm.mono (by decide)) oz) (afs (F.w1.nm.mono (by decide)) oz) (afs (F.w2.nm.mono (by decide)) oz)
       (afs (F.y1.nm.mono (by decide)) oz) (afs (F.y2.nm.mono (by decide)) oz) (asj hn _ _ F.y1.nm).2 (asj hn _ _ F.y2.nm).2 F.z3.nm.nl (by rw [acv]; omega) hn (by rw [show sgE (dE (ab2 (llq a.rs) (sX (rpX l a i j0 j))) (rpP l a i j0 j).d) = sgE (rpD l a i j0 j) from bcj]; exact hd0)
     have R1:=hR _ zr;have R2:=hR _ zn;have hex:=ayd (a:=sX (rpX l a i j0 j)) tw F.zX.nm (by rw [hlm]; decide) (by rw [show dec (llq a.rs).length (sX (rpX l a i j0 j)) = rpX l a i j0 j from aa4 _ _]; show 0 <= sgE (rpX l a i j0 j); omega);haveI zn0:Zl (ab2 (llq a.rs) (sX (rpX l a i j0 j))) 700000000 1000000000 [] (0:Et (ab2 (llq a.rs) (sX (rpX l a i j0 j)))) 0 0:=azb;have hmn:=Con.subA (.cons (.refl _) (.cons (Sub.nil 3 none 0) (.cons (.refl _) .nil))) (a8t (ts:=ab2 (llq a.rs) (sX (rpX l a i j0 j))) (u:=700000000) (k:=1000000000) (a:=[]) (b:=adb (llq a.rs).length) (by decide));rw [show (0:Et (ab2 (llq a.rs) (sX (rpX l a i j0 j)))) - lnR (rpX l a i j0 j) = -lnR (rpX l a i j0 j) by grind] at hmn;haveI u1:=ali (X:=rpX l a i j0 j) hn y3 (by decide);haveI u2:=ali (X:=rpX l a i j0 j) hn y4 (by decide);haveI u3:=ali (X:=rpX l a i j0 j) hn y1 (by decide);haveI u4:=ali (X:=rpX l a i j0 j) hn y2 (by decide);have hwX:=a7d (ts:=ab2 (llq a.rs) (sX (rpX l a i j0 j))) (u:=700000000) (k:=1000000000) (a:=sX (plE l a j.a j.point).1) (b:=sX (plE l a j.a j.point).2) (a2:=sX (aa1 l a j0 i).1) (b2:=sX (aa1 l a j0 i).2) 700000000 (by decide) (by decide) (by decide) (by decide) (by decide);rw [<- bfy,<- bfy] at hwX;rw [show sX (upE (rpX l a i j0 j) ((plE l a j.a j.point).1 - (aa1 l a j0 i).1)) = sX (rpW l a i j0 j).1 from (asj hn _ _ F.w1.nm).2,show sX (upE (rpX l a i j0 j) ((plE l a j.a j.point).2 - (aa1 l a j0 i).2)) = sX (rpW l a i j0 j).2 from (asj hn _ _ F.w2.nm).2] at hwX;refine gc hex ?_;refine gC (fun ht40=>?_) (fun ht40=>?_) (st1:=(10,0))
     ·cases ht40
     ·refine gc hmn ?_;refine gD ?_;exact jK2 hK1 (ab2 (llq a.rs) (sX (rpX l a i j0 j))) ([adb (llq a.rs).length,sX (-lnR (rpX l a i j0 j))]) ⟨le_refl 2,bfn R1 R2,hwX,by unfold rpR; rw [if_neg (fun h=>hd0 h.1),if_neg h2,if_pos h3]; rfl⟩
  ·rintro T qs ⟨hql, hq, hwT, hR⟩;refine gc hwT ?_;refine gl ?_;refine gW (Wk.virt 900 3 rfl) ?_;refine gL1 [2,3,7,11,59,60] [2,3,11] (fun (q:Nat)=>[(12,some (.ms 900 3 0 q)),(61,some (i64 q))]) (fun q=>[(900,some (.row 3 (rqL T (rpP l a i j0 j) qs q)))]) (fun q=>q <= qs.length) (fun q=>qs.length - q) 0 (zero_le _) ?_;rintro q hqi K2 hK2;refine gC (fun ht62=>?_) (fun ht62=>?_) (st2:=(25,0))
   ·have hin:=aa9 ht62;obtain ⟨x,hx⟩:=ab5 hin;have hx9:qs.getD q [] = x:=aah hx;have R:=hq x (mem_of_getElem? hx);refine gi (aag hx) ?_;refine gc R.c1 ?_;refine gc R.qt ?_;refine gc R.c2 ?_;refine gc R.sb ?_;refine gD ?_;refine gc (akb 1 oz) ?_;refine gc R.ov ?_;refine gc R.c3 ?_;refine gD ?_;refine gc R.put ?_;refine gl ?_;refine gc (aor q qs.length oz) ?_;refine gs (aa0 (.tmp rfl) rfl (aou _ _ _ _).symm (.tmp rfl) T47 rfl T62 rfl rfl (by dsimp only; simp only [length_cons,length_nil]; omega) rfl rfl) ?_;refine gD ?_ (24,0);refine gW (Wk.of (sl:=[(2,some (.ptr 2 0)),(3,some (.ptr 3 0)),(7,some (.lst 1 (qs.map nA))),(11,some (.ptr 11 0)),(12,some (.ms 105 3 0 (q + 1))),(59,some (.lst 1 (qs.map nA))),(60,some (i64 qs.length)),(61,some (i64 q))]) (hp:=[(2,some (.box [.lst 1 (T.map nA)])),(3,some (.box (v3K l a i j0 j))),(11,some (.box [nA (sX (rpW l a i j0 j).1),nA (sX (rpW l a i j0 j).2)])),(105,some (.row 3 (rqL T (rpP l a i j0 j) qs (q + 1))))]) aa6 (.k (.k (.k (.cons rfl (BlkSub.of (by rw [a35]; unfold rqS; rw [hx9]; rfl)) .nil))))) ?_ (24,0)
    refine gW (Wk.rekey (k:=105) (d:=900) rfl rfl) ?_;refine ga aat ?_;exact gK1 hK2 (q + 1) hin
   ·have hin:=aan hqi ht62;subst hin;refine gW ((Wk.freeze (k:=900) rfl).trans <| Wk.of (sl:=[(12,some (.lst 3 (rqL T (rpP l a i j0 j) qs qs.length)))]) (hp:=[]) (.cons rfl (Sub.of (by rw [abq (aou _ _ _ _).symm])) .nil) .nil) ?_;refine gE2 ?_;rw [hR]; rfl
end Go.Lw
namespace Go.Lw
open Go.Proofs
theorem a6s {vs:List (Rat × Rat)} (h:ah9 vs = true):∃ v ∈ vs, aht v v = 0:=by
 refine Decidable.byContradiction fun h9=>?_
 have h8:∀ v ∈ vs,aht v v ≠ 0:=fun v hv h0=>h9 ⟨v,hv,h0⟩
 unfold ah9 at h
 rw [acg (fun j hj=>by
  obtain ⟨v,hv⟩:=ab5 hj;rw [aah hv];simpa using h8 v (mem_of_getElem? hv))] at h
 cases h
theorem auc {ts:LL} {q:Rat}:sgE (qE q:Et ts) = 0 ↔ q = 0:=by
 rw [brc];exact ⟨fun h=>afg h,fun h=>by rw [h]; rfl⟩
theorem bp4 {x y:Int} (h:cond (aaa .eql x 0) true (aaa .eql y 0) = true):x = 0 \/ y = 0:=by
 cases h1:aaa .eql x 0
 ·rw [h1] at h; exact .inr (aco h)
 ·exact .inl (aco h1)
theorem bqu {x y:Int} (h:cond (aaa .eql x 0) true (aaa .eql y 0) = false):x ≠ 0 /\ y ≠ 0:=by
 cases h1:aaa .eql x 0
 ·rw [h1] at h; exact ⟨ac5 h1,ac5 h⟩
 ·rw [h1] at h; cases h
abbrev v1K (l:Li) (a:As) (i k:Int) (j0 j1 j2:Jt):List AV :=
  [i64 1, i64 i, i64 k] ++ (eNC (aa1 l a j0 i) ++ (eNC (aa1 l a j1 k) ++ (qNC (aak l j0 i) ++ (qNC (aak l j1 k) ++ (qNC (aak l j2 i) ++ (qNC (aak l j2 k) ++ (z2C ++ (z2C ++
    ([nA (sX (qE (sqQ (aak l j2 i) (aak l j0 i)):Et (llq a.rs))),nA (sX (qE (sqQ (aak l j2 k) (aak l j1 k)):Et (llq a.rs)))] ++ (z2C ++ [nl,nl,nA (sX (d2E (aa1 l a j1 k) (aa1 l a j0 i)))]))))))))))
theorem blz (l:Li) (a:As) (i k:Int) (j0 j1 j2:Jt):AV.agg (v1C l a i k j0 j1 j2) = .agg (v1K l a i k j0 j1 j2):=by
 unfold v1C v1K;rw [auq,auq]
abbrev v2K (l:Li) (a:As) (i:Int) (j0 j:Jt):List AV :=
  [i64 2, i64 i, i64 0] ++ (eNC (aa1 l a j0 i) ++ (z2C ++ (qNC (aak l j0 i) ++ (z2C ++ (qNC (mkQ l i j.point) ++ (z2C ++ (eNC (plE l a j.b j.on) ++ (eNC (plE l a j.b j.to) ++
    ([nA (sX (qE (sqQ (mkQ l i j.point) (aak l j0 i)):Et (llq a.rs))),nl] ++ (eNC (sbE (plE l a j.b j.to) (plE l a j.b j.on)) ++ [nl,nl,nl]))))))))))
theorem bli (l:Li) (a:As) (i:Int) (j0 j:Jt):AV.agg (v2C l a i j0 j) = .agg (v2K l a i j0 j):=by
 unfold v2C v2K;rw [auq]
theorem bnf {ts:LL} (c s:Et ts):an6 (((1:Int):Rat), (0:Rat)) ((c, s):P2 ts) = c /\ bdS (((1:Int):Rat), (0:Rat)) ((c, s):P2 ts) = s:=by
 have h1:aht (((1:Int):Rat),(0:Rat)) (((1:Int):Rat),(0:Rat)) = ((1:Int):Rat):=by decide +kernel
 unfold an6 bdS bdN;rw [h1,aln];have h2:(iE (1:Et ts)) = 1:=bn7;rw [h2,bjc];exact ⟨by show (1 * c + 0 * s) * 1 = c; grind,by show (1 * s - 0 * c) * 1 = s; grind⟩
theorem bdo {l:Li} {a:As} (D:DyR l a) (hn:(llq a.rs).length <= 1) {n m:Nat} {i:Int} {j0:Jt} (hE:FnC prog 32 [l.av, i64 n, a.av, bl false] (i64 0)) (hV:FnC prog 33 [l.av, i64 n, a.av] (.agg (v0C l a i j0)))
  (h0:l.joints[m]? = some j0) (p0:PinP l a j0 i) {x:Tn} (hx:x.t.ok) (hq:Qb 1000 x.t.q):FnC prog 12 [l.av,i64 n,x.av,a.av] (.tup [.lst 3 (a1m l a i j0 x).1,i64 (a1m l a i j0 x).2]):=by
 obtain ⟨tw,etw⟩:=abr D.al.tr D.hc;have qc:=a80 (half:=x.half) hq;have qs:=bab (half:=x.half) hq;have hs0:Sm 1000 (aak l j0 i):=ach D.hl D.li h0 p0.or;obtain ⟨y1,y2⟩:=aek D.hl D.li D.al D.hc h0 p0
 have B:RbP (llq a.rs) (((1:Int):Rat), (0:Rat)) ((qE (au6 x.half x.t.q), qE (auz x.half x.t.q)):P2 (llq a.rs)) (aak l j0 i) (aa1 l a j0 i) :=
  a99 tw oz (by have := kb4 tw.three; omega) a8n (hs0.mono oz) (by decide +kernel)
   (by show Nm _ _ (sX (qE (au6 x.half x.t.q):Et (llq a.rs))); rw [atb]; exact (aj1 tw.five qc).mono oz) (by show Nm _ _ (sX (qE (auz x.half x.t.q):Et (llq a.rs))); rw [atb]; exact (aj1 tw.five qs).mono oz) (y1.nm.mono (by decide)) (y2.nm.mono (by decide))
 obtain ⟨b1,b2⟩:=bnf (qE (au6 x.half x.t.q):Et (llq a.rs)) (qE (auz x.half x.t.q));have htn:=B.tn;have hsb:=B.sb;rw [b1,b2,atb,atb] at htn;rw [b1,b2] at hsb;refine gF0 func12 ?_;refine gc hE ?_;refine gC (fun ht26=>?_) (fun ht26=>?_) (st1:=(3,0))
 ·cases ht26
 ·refine gc hV ?_;refine gD ?_ (5,0);refine gW (Wk.of (sl:=[(6,some (.ptr 6 0)),(11,some (.ptr 11 0)),(12,some (.ptr 12 0))]) (hp:=[(6,some (.box x.av.cells)),(11,some (.box [.lst 1 ((llq a.rs).map nA)])),(12,some (.box (v0C l a i j0)))]) aa6 (.k (.cons rfl (BlkSub.boxL (.cons (.of (aff etw)) .nil) rfl) (.k .nil)))) ?_;refine gC (fun ht55=>?_) (fun ht55=>?_) (st2:=(19,0))
  ·refine gc (a1d x hx) ?_;refine gC (fun ht60=>?_) (fun ht60=>?_)
   ·have he:x.err ≠ 0:=ahv ht60;refine gR ?_;exact abc (by unfold a1m; rw [if_pos he]; exact Sub.tup (.cons (.nil _ _ _) (.cons (.refl _) .nil)))
   ·have he:x.err = 0:=aho ht60
    have hv:x.t.valid = true:=by
     unfold Tn.err at he;split at he
     ·rename_i h9; exact h9.1
     ·cases he
    have et:x.av = Tn.av ⟨rt x.t.q,x.half⟩:=by rw [<- Rt.eq_rt hx hv]
    have hcs:=a81 x.half hq oz;have hsn:=a9a x.half hq oz;rw [<- et] at hcs hsn;refine gc hcs ?_;refine gc (a5s (qc.qs oz)) ?_;refine gc hsn ?_;refine gc (a5s (qs.qs oz)) ?_;refine gD ?_;refine gc htn ?_;refine gc hsb ?_;refine gD ?_;refine gD ?_;refine gR ?_;exact abc (Sub.of (by unfold a1m bpa bdQ; rw [if_neg oz,b1,b2,atb,atb]; rfl))
  ·cases ht55
theorem bd0 {l:Li} {a:As} (D:DyR l a) (hn:(llq a.rs).length <= 1) {n:Nat} {i z0 z1:Int} {j0 j:Jt} (hE:FnC prog 32 [l.av, i64 n, a.av, bl false] (i64 0)) (hV:FnC prog 33 [l.av, i64 n, a.av] (.agg (v3K l a i j0 j)))
  (P:SlP l a ⟨3,[i],[z0,z1],0⟩ 3 i z0 z1 j0 j) (hj:j.b = i) (hb:Pd a j.a) (x:Tn):FnC prog 12 [l.av,i64 n,x.av,a.av] (.tup [.lst 3 (rpR l a i j0 j).1,i64 (rpR l a i j0 j).2]):=by
 obtain ⟨tw,etw⟩:=abr D.al.tr D.hc;refine gF0 func12 ?_;refine gc hE ?_;refine gC (fun ht26=>?_) (fun ht26=>?_) (st1:=(3,0))
 ·cases ht26
 ·refine gc hV ?_;refine gD ?_ (5,0);refine gW (Wk.of (sl:=[(6,some (.ptr 6 0)),(11,some (.ptr 11 0)),(12,some (.ptr 12 0))]) (hp:=[(6,some (.box x.av.cells)),(11,some (.box [.lst 1 ((llq a.rs).map nA)])),(12,some (.box (v3K l a i j0 j)))]) aa6 (.k (.cons rfl (BlkSub.boxL (.cons (.of (aff etw)) .nil) rfl) (.k .nil)))) ?_;refine gC (fun ht55=>?_) (fun ht55=>?_) (st1:=(12,0))
  ·cases ht55
  ·refine gC (fun ht92=>?_) (fun ht92=>?_) (st2:=(21, 0))
   ·refine gc (ay3 D hn P hj hb) ?_;refine gE2 ?_;rfl
   ·cases ht92
theorem a4o {l:Li} {a:As} {k:Int} {E:Nat} (hE:FnC prog 32 [l.av, i64 k, a.av, bl false] (i64 E)) (h0:E ≠ 0) {x:Tn}:FnC prog 12 [l.av, i64 k, x.av, a.av] (.tup [.lst 3 [], i64 E]):=by
 refine gF0 func12 ?_;refine gc hE ?_;refine gC (fun ht26=>?_) (fun ht26=>?_) (st2:=(77777,0))
 ·refine gR ?_;exact abc (Sub.tup (.cons (.nil _ _ _) (.cons (.refl _) .nil)))
 ·exact absurd (aho ht26) h0
theorem bc4 {l:Li} {a:As} (D:DyR l a) (hn:(llq a.rs).length <= 1) {n:Nat} {i k z0 z1 z2:Int} {j0 j1 j2:Jt} (hE:FnC prog 32 [l.av, i64 n, a.av, bl false] (i64 0)) (hV:FnC prog 33 [l.av, i64 n, a.av] (.agg (v1K l a i k j0 j1 j2)))
  (P:RrrP l a ⟨1,[i,k],[z0,z1,z2],0⟩ i k z0 z1 z2 j0 j1 j2) (x:Tn):FnC prog 12 [l.av,i64 n,x.av,a.av] (.tup [.lst 3 (a5r l a i k j0 j1 j2).1,i64 (a5r l a i k j0 j1 j2).2]):=by
 haveI c:=D.al.ct D.hc;obtain ⟨tw,etw⟩:=abr D.al.tr D.hc;have hq0:=ach D.hl D.li P.h0 P.p0.or;have hq1:=ach D.hl D.li P.h1 P.p1.or;have hq2:=ach D.hl D.li P.h2 P.t1;have hq3:=ach D.hl D.li P.h2 P.t2;obtain ⟨y1,y2⟩:=aek D.hl D.li D.al D.hc P.h0 P.p0;obtain ⟨y3,y4⟩:=aek D.hl D.li D.al D.hc P.h1 P.p1;haveI q1:=a6c hq2 hq0;haveI q2:=a6c hq3 hq1;haveI zu1:Zu 4000 300000 (qE (sqQ (aak l j2 i) (aak l j0 i)):Et (llq a.rs)) 3 0:=inferInstance;haveI zu2:Zu 4000 300000 (qE (sqQ (aak l j2 k) (aak l j1 k)):Et (llq a.rs)) 3 0:=inferInstance;haveI:=y1; haveI:=y2; haveI:=y3; haveI:=y4
 have g1:=agy (ts:=llq a.rs) (u:=4000) (k:=300000) (a:=sX (qE (sqQ (aak l j2 i) (aak l j0 i)):Et (llq a.rs)));have g2:=agy (ts:=llq a.rs) (u:=4000) (k:=300000) (a:=sX (qE (sqQ (aak l j2 k) (aak l j1 k)):Et (llq a.rs)));have hci:=awh (x:=(aa1 l a j0 i).1) (y:=(aa1 l a j0 i).2) (x2:=(aa1 l a j1 k).1) (y2:=(aa1 l a j1 k).2) (z:=qE (sqQ (aak l j2 i) (aak l j0 i))) (z2:=qE (sqQ (aak l j2 k) (aak l j1 k))) tw hn (axy _ _) (axy _ _);have hmk:=fun h3=>a1q (x:=(aa1 l a j0 i).1) (y:=(aa1 l a j0 i).2) (x2:=(aa1 l a j1 k).1) (y2:=(aa1 l a j1 k).2) (z:=qE (sqQ (aak l j2 i) (aak l j0 i))) (z2:=qE (sqQ (aak l j2 k) (aak l j1 k))) tw hn c y1 y2 zu1 y3 y4 zu2 h3
 have hrr:a5r l a i k j0 j1 j2 = if ah9 [afp (aak l j2 i) (aak l j0 i), afp (aak l j2 k) (aak l j1 k)] = true then ([], 15) else if atf ((aa1 l a j0 i).1, (aa1 l a j0 i).2) ((aa1 l a j1 k).1, (aa1 l a j1 k).2) (qE (sqQ (aak l j2 i) (aak l j0 i))) (qE (sqQ (aak l j2 k) (aak l j1 k))) ≠ 0 then ([], atf ((aa1 l a j0 i).1, (aa1 l a j0 i).2) ((aa1 l a j1 k).1, (aa1 l a j1 k).2) (qE (sqQ (aak l j2 i) (aak l j0 i))) (qE (sqQ (aak l j2 k) (aak l j1 k))))
  else (plL (asq ((aa1 l a j0 i).1,(aa1 l a j0 i).2) ((aa1 l a j1 k).1,(aa1 l a j1 k).2) (qE (sqQ (aak l j2 i) (aak l j0 i))) (qE (sqQ (aak l j2 k) (aak l j1 k)))) [⟨aak l j0 i,P2.l (aa1 l a j0 i),aak l j2 i⟩,⟨aak l j1 k,P2.l (aa1 l a j1 k),aak l j2 k⟩] (asq ((aa1 l a j0 i).1,(aa1 l a j0 i).2) ((aa1 l a j1 k).1,(aa1 l a j1 k).2) (qE (sqQ (aak l j2 i) (aak l j0 i))) (qE (sqQ (aak l j2 k) (aak l j1 k)))).ps.length,0):=rfl
 obtain ⟨m,hm⟩:∃ m,asq ((aa1 l a j0 i).1,(aa1 l a j0 i).2) ((aa1 l a j1 k).1,(aa1 l a j1 k).2) (qE (sqQ (aak l j2 i) (aak l j0 i))) (qE (sqQ (aak l j2 k) (aak l j1 k))) = m:=⟨_,rfl⟩
 obtain ⟨e,he⟩:∃ e,atf ((aa1 l a j0 i).1,(aa1 l a j0 i).2) ((aa1 l a j1 k).1,(aa1 l a j1 k).2) (qE (sqQ (aak l j2 i) (aak l j0 i))) (qE (sqQ (aak l j2 k) (aak l j1 k))) = e:=⟨_,rfl⟩
 rw [hm] at hci hmk hrr;rw [he] at hci hmk hrr;rw [hrr];refine gF0 func12 ?_;refine gc hE ?_;refine gC (fun ht26=>?_) (fun ht26=>?_) (st1:=(3,0))
 ·cases ht26
 ·refine gc hV ?_;refine gD ?_ (5,0);refine gW (Wk.of (sl:=[(6,some (.ptr 6 0)),(11,some (.ptr 11 0)),(12,some (.ptr 12 0))]) (hp:=[(6,some (.box x.av.cells)),(11,some (.box [.lst 1 ((llq a.rs).map nA)])),(12,some (.box (v1K l a i k j0 j1 j2)))]) aa6 (.k (.cons rfl (BlkSub.boxL (.cons (.of (aff etw)) .nil) rfl) (.k .nil)))) ?_;refine gC (fun ht55=>?_) (fun ht55=>?_) (st1:=(12,0))
  ·cases ht55
  ·refine gC (fun ht92=>?_) (fun ht92=>?_) (st1:=(20, 0))
   ·cases ht92
   ·refine gC (fun ht99=>?_) (fun ht99=>?_) (st2:=(8, 0))
    ·refine gc g1 ?_;refine gcG (fun _=>g2) ?_;refine gC (fun ht112=>?_) (fun ht112=>?_)
     ·have hz:ah9 [afp (aak l j2 i) (aak l j0 i), afp (aak l j2 k) (aak l j1 k)] = true:=by
       refine Decidable.byContradiction fun h9=>?_
       obtain ⟨w1,w2⟩:=av7 (Bool.eq_false_iff.2 h9);rcases bp4 ht112 with h | h
       ·exact w1 (auc.1 h)
       ·exact w2 (auc.1 h)
      refine gR ?_;exact abc (by rw [if_pos hz]; exact Sub.tup (.cons (.nil _ _ _) (.cons (.refl _) .nil)))
     ·obtain ⟨o1, o2⟩:=bqu ht112;have w1:aht (afp (aak l j2 i) (aak l j0 i)) (afp (aak l j2 i) (aak l j0 i)) ≠ 0:=fun h=>o1 (auc.2 h)
      have w2:aht (afp (aak l j2 k) (aak l j1 k)) (afp (aak l j2 k) (aak l j1 k)) ≠ 0:=fun h=>o2 (auc.2 h)
      have hz:¬ ah9 [afp (aak l j2 i) (aak l j0 i), afp (aak l j2 k) (aak l j1 k)] = true:=fun h=>by
       obtain ⟨v,hv,h0⟩:=a6s h;rcases List.mem_cons.1 hv with rfl | hv
       ·exact w1 h0
       ·rw [List.mem_singleton.1 hv] at h0; exact w2 h0
      rw [if_neg hz];refine gc hci ?_;refine gC (fun ht129=>?_) (fun ht129=>?_)
      ·have h3:e ≠ 0:=ahv ht129;refine gR ?_;exact abc (by rw [if_pos h3]; exact Sub.tup (.cons (.nil _ _ _) (.cons (.refl _) .nil)))
      ·have h3:e = 0:=aho ht129;have ok:=hmk h3;have hml:=ok.ln;rw [if_neg oz];refine gl ?_;refine gW (Wk.virt 900 3 rfl) ?_;refine gL1 [12,13,132,133] [12,13] (fun (q:Nat)=>[(18,some (.ms 900 3 0 q)),(134,some (i64 q))]) (fun q=>[(900,some (.row 3 (plL m [⟨aak l j0 i,P2.l (aa1 l a j0 i),aak l j2 i⟩,⟨aak l j1 k,P2.l (aa1 l a j1 k),aak l j2 k⟩] q)))]) (fun q=>q <= m.ps.length) (fun q=>m.ps.length - q) 0 (zero_le _) ?_;rintro q hqi K1 hK1;refine gC (fun ht135=>?_) (fun ht135=>?_) (st2:=(33,0))
       ·have hin:=aa9 ht135;obtain ⟨y,hy⟩:=ab5 hin;have hy9:m.ps.getD q ([],[]) = y:=aah hy;have hym:=mem_of_getElem? hy;have H0:=bbr ok hym (o:=aa1 l a j0 i) (y1.nm.mono (by decide)) (y2.nm.mono (by decide)) hq0 hq2 w1;have H1:=bbr ok hym (o:=aa1 l a j1 k) (y3.nm.mono (by decide)) (y4.nm.mono (by decide)) hq1 hq3 w2;have hpl:=avy H0 H1;rw [blz] at hpl;refine gi (aag hy) ?_;refine gc hpl ?_;refine gl ?_;refine gc (aor q m.ps.length oz) ?_;refine gs (aa0 (.tmp rfl) rfl (ai8 _ _ _).symm (.tmp rfl) T47 rfl T62 rfl rfl (by dsimp only; simp only [length_cons,length_nil]; omega) rfl rfl) ?_;refine gD ?_ (32,0);refine gW (Wk.of (sl:=[(12,some (.ptr 12 0)),(13,some (.ptr 13 0)),(18,some (.ms 154 3 0 (q + 1))),(132,some (.lst 2 (m.ps.map lpA))),(133,some (i64 m.ps.length)),(134,some (i64 q))]) (hp:=[(12,some (.box (v1K l a i k j0 j1 j2))),(13,some (.box [.lst 1 (m.ts.map nA),.lst 2 (m.ps.map lpA)])),(154,some (.row 3 (plL m [⟨aak l j0 i,P2.l (aa1 l a j0 i),aak l j2 i⟩,⟨aak l j1 k,P2.l (aa1 l a j1 k),aak l j2 k⟩] (q + 1))))]) aa6 (.k (.k (.cons rfl (BlkSub.of (by rw [aup]; unfold plS; rw [hy9]; rfl)) .nil)))) ?_ (32,0)
        refine gW (Wk.rekey (k:=154) (d:=900) rfl rfl) ?_;refine ga aat ?_;exact gK1 hK1 (q + 1) hin
       ·have hin:=aan hqi ht135;subst hin;refine gW ((Wk.freeze (k:=900) rfl).trans <| Wk.of (sl:=[(18,some (.lst 3 (plL m [⟨aak l j0 i,P2.l (aa1 l a j0 i),aak l j2 i⟩,⟨aak l j1 k,P2.l (aa1 l a j1 k),aak l j2 k⟩] m.ps.length)))]) (hp:=[]) (.cons rfl (Sub.of (by rw [abq (ai8 _ _ _).symm])) .nil) .nil) ?_;refine gE2 ?_;rfl
    ·cases ht99
theorem bcl {l:Li} {a:As} (D:DyR l a) (hn:(llq a.rs).length <= 1) {n:Nat} {i z0 z1:Int} {j0 j:Jt} (hE:FnC prog 32 [l.av, i64 n, a.av, bl false] (i64 0)) (hV:FnC prog 33 [l.av, i64 n, a.av] (.agg (v2K l a i j0 j)))
  (P:SlP l a ⟨2,[i],[z0,z1],0⟩ 2 i z0 z1 j0 j) (ha:j.a = i) (hb:Pd a j.b) (x:Tn):FnC prog 12 [l.av,i64 n,x.av,a.av] (.tup [.lst 3 (prR l a i j0 j).1,i64 (prR l a i j0 j).2]):=by
 haveI c:=D.al.ct D.hc;obtain ⟨tw,etw⟩:=abr D.al.tr D.hc;obtain ⟨i1,i2,i3,i4,i5⟩:=afv D.li P.h1;have hq2:Sm 1000 (mkQ l i j.point):=by rw [<- ha]; exact ajg D.hl D.li i1 i3
 have hq0:=ach D.hl D.li P.h0 P.p0.or;obtain ⟨y1,y2⟩:=aek D.hl D.li D.al D.hc P.h0 P.p0;obtain ⟨y3,y4⟩:=agu D.hl D.li D.al D.hc i2 i4 hb;obtain ⟨y5,y6⟩:=agu D.hl D.li D.al D.hc i2 (i5 P.hk) hb;haveI q1:=a6c hq2 hq0;haveI zu1:Zu 4000 300000 (qE (sqQ (mkQ l i j.point) (aak l j0 i)):Et (llq a.rs)) 3 0:=inferInstance;have g1:=agy (ts:=llq a.rs) (u:=4000) (k:=300000) (a:=sX (qE (sqQ (mkQ l i j.point) (aak l j0 i)):Et (llq a.rs)));have hci:=a4v (c:=aa1 l a j0 i) (p:=plE l a j.b j.on) (q:=plE l a j.b j.to) (z:=qE (sqQ (mkQ l i j.point) (aak l j0 i))) tw hn y3 y4 y5 y6 y1 y2 zu1 (axy _ _);have hmk:=fun h3=>a0f (o:=aa1 l a j0 i) (p:=plE l a j.b j.on) (q:=plE l a j.b j.to) (z:=qE (sqQ (mkQ l i j.point) (aak l j0 i))) tw hn c y1 y2 y3 y4 y5 y6 zu1 h3
 unfold prR;obtain ⟨m,hm⟩:∃ m,axj (plE l a j.b j.on) (plE l a j.b j.to) (aa1 l a j0 i) (qE (sqQ (mkQ l i j.point) (aak l j0 i))) = m:=⟨_,rfl⟩
 obtain ⟨e,he⟩:∃ e,azv (plE l a j.b j.on) (plE l a j.b j.to) = e:=⟨_,rfl⟩
 rw [hm] at hci hmk;rw [he] at hci hmk;rw [hm,he];refine gF0 func12 ?_;refine gc hE ?_;refine gC (fun ht26=>?_) (fun ht26=>?_) (st1:=(3,0))
 ·cases ht26
 ·refine gc hV ?_;refine gD ?_ (5,0);refine gW (Wk.of (sl:=[(6,some (.ptr 6 0)),(11,some (.ptr 11 0)),(12,some (.ptr 12 0))]) (hp:=[(6,some (.box x.av.cells)),(11,some (.box [.lst 1 ((llq a.rs).map nA)])),(12,some (.box (v2K l a i j0 j)))]) aa6 (.k (.cons rfl (BlkSub.boxL (.cons (.of (aff etw)) .nil) rfl) (.k .nil)))) ?_;refine gC (fun ht55=>?_) (fun ht55=>?_) (st1:=(12,0))
  ·cases ht55
  ·refine gC (fun ht92=>?_) (fun ht92=>?_) (st1:=(20, 0))
   ·cases ht92
   ·refine gC (fun ht99=>?_) (fun ht99=>?_) (st1:=(22, 0))
    ·cases ht99
    ·refine gc g1 ?_;refine gC (fun ht40=>?_) (fun ht40=>?_)
     ·have hz:ah9 [afp (mkQ l i j.point) (aak l j0 i)] = true:=by
       refine Decidable.byContradiction fun h9=>?_
       exact aut (Bool.eq_false_iff.2 h9) (auc.1 (aco ht40))
      refine gR ?_;exact abc (by rw [if_pos hz]; exact Sub.tup (.cons (.nil _ _ _) (.cons (.refl _) .nil)))
     ·have w1:aht (afp (mkQ l i j.point) (aak l j0 i)) (afp (mkQ l i j.point) (aak l j0 i)) ≠ 0:=fun h=>ac5 ht40 (auc.2 h)
      have hz:¬ ah9 [afp (mkQ l i j.point) (aak l j0 i)] = true:=fun h=>by
       obtain ⟨v,hv,h0⟩:=a6s h;rw [List.mem_singleton.1 hv] at h0; exact w1 h0
      rw [if_neg hz];refine gc hci ?_;refine gC (fun ht129=>?_) (fun ht129=>?_)
      ·have h3:e ≠ 0:=ahv ht129;refine gR ?_;exact abc (by rw [if_pos h3]; exact Sub.tup (.cons (.nil _ _ _) (.cons (.refl _) .nil)))
      ·have h3:e = 0:=aho ht129;have ok:=hmk h3;have hml:=ok.ln;rw [if_neg oz];refine gl ?_;refine gW (Wk.virt 900 3 rfl) ?_;refine gL1 [12,13,132,133] [12,13] (fun (q:Nat)=>[(18,some (.ms 900 3 0 q)),(134,some (i64 q))]) (fun q=>[(900,some (.row 3 (plL m [⟨aak l j0 i,P2.l (aa1 l a j0 i),mkQ l i j.point⟩] q)))]) (fun q=>q <= m.ps.length) (fun q=>m.ps.length - q) 0 (zero_le _) ?_;rintro q hqi K1 hK1;refine gC (fun ht135=>?_) (fun ht135=>?_) (st2:=(33,0))
       ·have hin:=aa9 ht135;obtain ⟨y,hy⟩:=ab5 hin;have hy9:m.ps.getD q ([],[]) = y:=aah hy;have hym:=mem_of_getElem? hy;have H0:=bbr ok hym (o:=aa1 l a j0 i) (y1.nm.mono (by decide)) (y2.nm.mono (by decide)) hq0 hq2 w1;have hpl:=awj H0;rw [bli] at hpl;refine gi (aag hy) ?_;refine gc hpl ?_;refine gl ?_;refine gc (aor q m.ps.length oz) ?_;refine gs (aa0 (.tmp rfl) rfl (ai8 _ _ _).symm (.tmp rfl) T47 rfl T62 rfl rfl (by dsimp only; simp only [length_cons,length_nil]; omega) rfl rfl) ?_;refine gD ?_ (32,0);refine gW (Wk.of (sl:=[(12,some (.ptr 12 0)),(13,some (.ptr 13 0)),(18,some (.ms 154 3 0 (q + 1))),(132,some (.lst 2 (m.ps.map lpA))),(133,some (i64 m.ps.length)),(134,some (i64 q))]) (hp:=[(12,some (.box (v2K l a i j0 j))),(13,some (.box [.lst 1 (m.ts.map nA),.lst 2 (m.ps.map lpA)])),(154,some (.row 3 (plL m [⟨aak l j0 i,P2.l (aa1 l a j0 i),mkQ l i j.point⟩] (q + 1))))]) aa6 (.k (.k (.cons rfl (BlkSub.of (by rw [aup]; unfold plS; rw [hy9]; rfl)) .nil)))) ?_ (32,0)
        refine gW (Wk.rekey (k:=154) (d:=900) rfl rfl) ?_;refine ga aat ?_;exact gK1 hK1 (q + 1) hin
       ·have hin:=aan hqi ht135;subst hin;refine gW ((Wk.freeze (k:=900) rfl).trans <| Wk.of (sl:=[(18,some (.lst 3 (plL m [⟨aak l j0 i,P2.l (aa1 l a j0 i),mkQ l i j.point⟩] m.ps.length)))]) (hp:=[]) (.cons rfl (Sub.of (by rw [abq (ai8 _ _ _).symm])) .nil) .nil) ?_;refine gE2 ?_;rfl
theorem a1h {l:Li} (hl:l.ok) (hli:liE l = 0) (k:Int) {x:Tn} (hx:x.t.ok) (hq:Qb 1000 x.t.q) (a:As) (al:AL a) (hn:aer a.rs = 0 -> (llq a.rs).length <= 1) :
  FnC prog 12 [l.av,i64 k,x.av,a.av] (.tup [.lst 3 (a6a l k x a).1,i64 (a6a l k x a).2]):=by
 have hE:=a9u l hl hli k a al false;rw [<- bk3 hli] at hE;unfold a6a
 by_cases h0:dyE l k a false = 0
 ·obtain ⟨n, g, ok⟩:=beb h0;have D:DyR l a:=⟨hl,hli,al,ok.chk⟩
  have hgA:gAt l k = g:=by unfold gAt; rw [ok.hk,toNat_natCast]; exact aah ok.hg
  have hG:=ok.hg;have hgo:=ok.ok;have hn1:=hn ok.chk;rw [if_pos h0,hgA];rw [h0] at hE;rw [ok.hk] at hE ⊢;unfold a55
  by_cases hk0:g.kind = 0
  ·obtain ⟨i, z0, d, j0, e, hj0, p0⟩:=auu ok hk0;subst e;rw [if_pos rfl];show FnC _ _ _ (.tup [.lst 3 (a1m l a i (l.joints.getD z0.toNat default) x).1,i64 (a1m l a i (l.joints.getD z0.toNat default) x).2]);rw [aah hj0];exact bdo D hn1 hE (a5e D hG hgo hj0 p0) hj0 p0 hx hq
  ·rw [if_neg hk0]
   by_cases hk1:g.kind = 1
   ·obtain ⟨i, k2, z0, z1, z2, j0, j1, j2, P⟩:=ok.rrr hk1;obtain ⟨e0,e1,e2,b0,b1,_⟩:=P.at;rw [if_pos hk1,e0,e1,e2,b0,b1];have e:=P.eq;subst e;have hV:=a43 D hG hgo P ok.ne;rw [blz] at hV;exact bc4 D hn1 hE hV P x
   ·rw [if_neg hk1]
    by_cases hk2:g.kind = 2
    ·obtain ⟨i, z0, z1, j0, j, P, ha, hb⟩:=ok.pr hk2;obtain ⟨e0,e1,b0,_⟩:=P.at;rw [if_pos hk2,e0,e1,b0];have e:=P.eq;subst e;have hV:=a4g D hG hgo P ha hb;rw [bli] at hV;exact bcl D hn1 hE hV P ha hb x
    ·obtain ⟨i, z0, z1, j0, j, P, _, hj, hb⟩:=ok.rp hk0 hk1 hk2;obtain ⟨e0,e1,b0,hk3⟩:=P.at;rw [if_neg hk2,e0,e1,b0];have e:=P.eq;subst e;have hV:=a54 D hG hgo P hj hb;rw [bmc] at hV;exact bd0 D hn1 hE hV P hj hb x
 ·rw [if_neg h0];exact a4o hE h0
end Go.Lw
