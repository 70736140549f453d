/- SingularKinds: for any linkage, any turns, any assembly and any group the law returns true and leaves its arguments as they were. No other condition. Part 7 of 7: the statement -/
import Derived.Test.YtkmgmddcmmadjaaGreatZf
import Derived.Laws.Pointers
set_option linter.unusedVariables false
open List (mem_of_getElem? mem_cons_of_mem mem_append map_cons mem_cons mem_cons_self all_eq_true nil_append not_mem_nil map_map)
open Nat (eq_of_beq_eq_true le_refl zero_le)
open Bool (and_eq_true)
open Int (toNat_natCast)
open Go.Proofs.Tryz
namespace Go.Lw
open Go.Proofs
abbrev qN (p:Rat × Rat):AV:=ptA (sh 0 (p.1:Rat)) (sh 0 (p.2:Rat))
abbrev eN {ts:List (List Rat)} (p:Et ts × Et ts):AV:=ptA (sX p.1) (sX p.2)
theorem agr {l:Li} (hl:l.ok) (hli:liE l = 0) {body pt:Int} (h1:inB body l.bodies.length = true) (h2:inB pt (adz l body).length = true):FnC prog 116 [l.av, i64 body, i64 pt] (qN (mkQ l body pt)):=by
 obtain ⟨n,k,bd,m,mp⟩:=bcd hl hli h1 h2
 have hn:=mp.hn
 have hk:=mp.hk
 have hlb:=hl.lb
 have ho:=a0v (mp.sm.x.qs (by omega)) (mp.sm.y.qs (by omega))
 have ho:FnC prog 199 [m.x.av,m.y.av] (qN (mkQ l body pt)):=by rw [mp.ex,mp.ey]; exact ho
 refine gF0 func116 ?_
 refine gi (adl (n:=n) hn mp.gbd) ?_
 refine gi (adl (n:=k) hk mp.gm) ?_
 refine gc ho ?_
 refine gE1 ?_
 rfl
theorem amf {l:Li} {a:As} (D:DyR l a) {body pt:Int} (h1:inB body l.bodies.length = true) (h2:inB pt (adz l body).length = true) (hb:Pd a body) :
  FnC prog 115 [l.av,a.av,i64 body,i64 pt] (eN (plE l a body pt)):=by
 obtain ⟨n,k,bd,m,b,hp⟩:=bhi D.hl D.li D.al D.hc h1 h2 hb
 obtain ⟨tw,hta⟩:=ab3 D.al.tr D.hc
 have kb:=kb4 tw.three
 have hlm:=aea (llq a.rs).length
 have hlb:=D.hl.lb
 have hbl:=D.al.bl
 show FnC prog _ _ (ptA (sh (llq a.rs).length (ai4 l a body pt).1) (sh (llq a.rs).length (ai4 l a body pt).2))
 rw [hp.eq]
 have hn:=hp.mp.hn
 have hk:=hp.mp.hk
 have hat:FnC prog 198 [ae5 a.rs, b.av, m.x.av, m.y.av] (ptA (sh (llq a.rs).length (atP (llq a.rs) b m).1) (sh (llq a.rs).length (atP (llq a.rs) b m).2)):=by
  rw [hta,hp.av,hp.mp.ex,hp.mp.ey]
  have h9:=a0q tw hp.ok.c hp.ok.s hp.ok.x hp.ok.y (hp.mp.sm.x.mono (f:=4000) (by omega)) (hp.mp.sm.y.mono (f:=4000) (by omega)) (by omega)
  unfold atP
  rw [hp.mp.ex,hp.mp.ey,agd,agd]
  exact h9
 refine gF0 func115 ?_
 refine gi (adl (n:=n) hn hp.mp.gbd) ?_
 refine gi (adl (n:=k) hk hp.mp.gm) ?_
 refine gi (adl (n:=n) hn hp.gb) ?_
 refine gc hat ?_
 refine gD ?_
 refine gE1 ?_
 rfl
theorem age (j:Jt) (b:Int):FnC prog 114 [j.av, i64 b] (.tup [i64 (sdP j b), i64 (sdB j b), i64 (sdQ j b)]):=by
 refine gF0 func114 ?_
 refine gC (fun ht10=>?_) (fun ht10=>?_)
 ·have e:j.a = b:=aes ht10
  refine gD ?_
  refine gE3 ?_
  unfold sdP sdB sdQ; rw [if_pos e,if_pos e,if_pos e]
 ·have e:j.a ≠ b:=afr ht10
  refine gD ?_
  refine gE3 ?_
  unfold sdP sdB sdQ; rw [if_neg e,if_neg e,if_neg e]
theorem agq {l:Li} {a:As} (D:DyR l a) {n:Nat} {j:Jt} (hj:l.joints[n]? = some j) {b:Int} (h:PinP l a j b):FnC prog 115 [l.av, a.av, i64 (sdB j b), i64 (sdQ j b)] (eN (ad5 l a j b)):=by
 obtain ⟨i1,i2,i3,i4,_⟩:=aet D.li hj
 unfold ad5 sdB sdQ
 rcases h.tie with ⟨e,hb⟩ | ⟨e,e2,hb⟩
 ·rw [if_pos e,if_pos e,if_pos e]; exact amf D i2 i4 hb
 ·rw [if_neg e,if_neg e,if_neg e]; exact amf D i1 i3 hb
theorem aeq {l:Li} (hl:l.ok) (hli:liE l = 0) {n:Nat} {j:Jt} (hj:l.joints[n]? = some j) {b:Int} (h:j.a = b \/ j.b = b):FnC prog 116 [l.av, i64 b, i64 (sdP j b)] (qN (afj l j b)):=by
 obtain ⟨i1,i2,i3,i4,_⟩:=aet hli hj
 unfold afj sdP
 by_cases e:j.a = b
 ·rw [if_pos e,if_pos e]; subst e; exact agr hl hli i1 i3
 ·rw [if_neg e, if_neg e]
  rcases h with h | h
  ·exact absurd h e
  ·subst h; exact agr hl hli i2 i4
theorem ayp {l:Li} (hl:l.ok) (hli:liE l = 0) {n:Nat} {j:Jt} (hj:l.joints[n]? = some j) {i k:Int} (ne:i ≠ k) (t1:j.a = i \/ j.b = i) (t2:j.a = k \/ j.b = k):FnC prog 116 [l.av, i64 k, i64 (sdQ j i)] (qN (afj l j k)):=by
 obtain ⟨i1,i2,i3,i4,_⟩:=aet hli hj
 unfold afj sdQ
 by_cases e:j.a = i
 ·rw [if_pos e, if_neg (by omega)]
  obtain rfl:j.b = k:=by omega
  exact agr hl hli i2 i4
 ·rw [if_neg e, if_pos (by omega)]
  obtain rfl:j.a = k:=by omega
  exact agr hl hli i1 i3
abbrev nl:AV:=.v (.slice none 0 0)
abbrev z2C:List AV:=[nl,nl]
abbrev qNC (p:Rat × Rat):List AV:=[nA (sh 0 (p.1:Rat)),nA (sh 0 (p.2:Rat))]
abbrev eNC {ts:List (List Rat)} (p:Et ts × Et ts):List AV:=[nA (sX p.1),nA (sX p.2)]
abbrev v1C (l:Li) (a:As) (i k:Int) (j0 j1 j2:Jt):List AV :=
  [i64 1, i64 i, i64 k] ++ (eNC (ad5 l a j0 i) ++ (eNC (ad5 l a j1 k) ++ (qNC (afj l j0 i) ++ (qNC (afj l j1 k) ++ (qNC (afj l j2 i) ++ (qNC (afj l j2 k) ++ (z2C ++ (z2C ++
    ([nA (sX (d2E (qv (afj l j2 i)) (qv (afj l j0 i)):Et (llq a.rs))),nA (sX (d2E (qv (afj l j2 k)) (qv (afj l j1 k)):Et (llq a.rs)))] ++ (z2C ++ [nl,nl,nA (sX (d2E (ad5 l a j1 k) (ad5 l a j0 i)))]))))))))))
abbrev v2C (l:Li) (a:As) (i:Int) (j0 j:Jt):List AV :=
  [i64 2, i64 i, i64 0] ++ (eNC (ad5 l a j0 i) ++ (z2C ++ (qNC (afj l j0 i) ++ (z2C ++ (qNC (mkQ l i j.point) ++ (z2C ++ (eNC (plE l a j.b j.on) ++ (eNC (plE l a j.b j.to) ++
    ([nA (sX (d2E (qv (mkQ l i j.point)) (qv (afj l j0 i)):Et (llq a.rs))),nl] ++ (eNC (sbE (plE l a j.b j.to) (plE l a j.b j.on)) ++ [nl,nl,nl]))))))))))
abbrev v3C (l:Li) (a:As) (i:Int) (j0 j:Jt):List AV :=
  [i64 3, i64 i, i64 0] ++ (eNC (ad5 l a j0 i) ++ (eNC (plE l a j.a j.point) ++ (qNC (afj l j0 i) ++ (z2C ++ (z2C ++ (z2C ++ (qNC (mkQ l i j.on) ++ (qNC (mkQ l i j.to) ++
    ([nl, nl] ++ (eNC (sbE (qv (mkQ l i j.to)) (qv (mkQ l i j.on)):Et (llq a.rs) × Et (llq a.rs)) ++
      [nA (sX (bks (sbE (qv (mkQ l i j.to)) (qv (mkQ l i j.on))) (sbE (qv (mkQ l i j.on)) (qv (afj l j0 i))):Et (llq a.rs))),nA (sX (a5i (sbE (qv (mkQ l i j.to)) (qv (mkQ l i j.on))) (sbE (qv (mkQ l i j.to)) (qv (mkQ l i j.on))):Et (llq a.rs))),nA (sX (d2E (plE l a j.a j.point) (ad5 l a j0 i)))]))))))))))
abbrev v0C (l:Li) (a:As) (i:Int) (j0:Jt):List AV :=
  [i64 0,i64 i,i64 0] ++ (eNC (ad5 l a j0 i) ++ (z2C ++ (qNC (afj l j0 i) ++ (z2C ++ (z2C ++ (z2C ++ (z2C ++ (z2C ++ ([nl,nl] ++ (z2C ++ [nl,nl,nl]))))))))))
section
variable {ts:List (List Rat)} {a b a2 b2:List Rat} {x y x2 y2:Et ts}
theorem a1w {u k w v w' v' w2 v2 w3 v3 : Nat} [c : Ct ts u k] [ha : Zl ts u k a x w v] [hb : Zl ts u k b y w' v'] [ha2 : Zl ts u k a2 x2 w2 v2] [hb2 : Zl ts u k b2 y2 w3 v3] (h : 2 * (w + v + (w' + v') + (w2 + v2 + (w3 + v3))) + 4 <= 2500 := by decide) :
  FnC prog 117 [ad7 ts,ptA a b,ptA a2 b2] (nA (sX (d2E (x,y) (x2,y2)))):=by
 haveI:=ha.zu
 haveI:=hb.zu
 haveI:=ha2.zu
 haveI:=hb2.zu
 have h1:=asu (ts:=ts) (a:=a) (b:=b) (a2:=a2) (b2:=b2) (by omega)
 have h2:=baa (ts:=ts) (a:=sX (x - x2)) (b:=sX (y - y2)) (a2:=sX (x - x2)) (b2:=sX (y - y2)) (by omega)
 refine gF0 func117 ?_
 refine gc h1 ?_
 refine gc h2 ?_
 refine gE1 ?_
 rfl
end
theorem awd {ts:List (List Rat)} (c:Ct ts 4000 300000) {p:Rat × Rat} (hp:Sm 1000 p):Zl ts 4000 300000 (sh 0 (p.1:Rat)) (qE p.1) 1 0 /\ Zl ts 4000 300000 (sh 0 (p.2:Rat)) (qE p.2) 1 0:=by
 haveI:=c
 haveI:=bo1 (w:=1) (hp.x) (by omega)
 haveI:=bo1 (w:=1) (hp.y) (by omega)
 exact ⟨inferInstance,inferInstance⟩
theorem bhb {a:As} {l:Li} (D:DyR l a) {p q:Rat × Rat} (hp:Sm 1000 p) (hq:Sm 1000 q):FnC prog 117 [ae5 a.rs, qN p, qN q] (nA (sX (d2E (qv p) (qv q):Et (llq a.rs)))):=by
 haveI c:=D.al.ct D.hc
 obtain ⟨z1,z2⟩:=awd c hp
 obtain ⟨z3,z4⟩:=awd c hq
 have h:=a1w (ts:=llq a.rs) (u:=4000) (k:=300000) (a:=sh 0 (p.1:Rat)) (b:=sh 0 (p.2:Rat)) (a2:=sh 0 (q.1:Rat)) (b2:=sh 0 (q.2:Rat)) (by decide)
 rw [<- (ab3 D.al.tr D.hc).2] at h
 exact h
theorem bo2 {a:As} {l:Li} (D:DyR l a) {p q:Et (llq a.rs) × Et (llq a.rs)} (h1:Zu 4000 300000 p.1 40 40) (h2:Zu 4000 300000 p.2 40 40) (h3:Zu 4000 300000 q.1 40 40) (h4:Zu 4000 300000 q.2 40 40) :
  FnC prog 117 [ae5 a.rs,eN p,eN q] (nA (sX (d2E p q))):=by
 haveI c:=D.al.ct D.hc
 haveI:=h1; haveI:=h2; haveI:=h3; haveI:=h4
 have h:=a1w (ts:=llq a.rs) (u:=4000) (k:=300000) (a:=sX p.1) (b:=sX p.2) (a2:=sX q.1) (b2:=sX q.2) (by decide)
 rw [<- (ab3 D.al.tr D.hc).2] at h
 exact h
theorem amd {l:Li} {a:As} {j:Jt} {b:Int} (p0:PinP l a j b):j.a = b \/ j.b = b:=by rcases p0.tie with h9 | h9; exact .inl h9.1; exact .inr h9.2.1
theorem asl {l:Li} {a:As} (D:DyR l a) {n:Nat} {i k z0 z1 z2:Int} {j0 j1 j2:Jt} (hG:(splitG l)[n]? = some ⟨1, [i, k], [z0, z1, z2], 0⟩) (hgo:GrOk l ⟨1, [i, k], [z0, z1, z2], 0⟩) (P:RrrP l a ⟨1, [i, k], [z0, z1, z2], 0⟩ i k z0 z1 z2 j0 j1 j2) (ne:i ≠ k) :
  FnC prog 51 [l.av,i64 n,a.av] (.agg (v1C l a i k j0 j1 j2)):=by
 have hsl:=ahu D.li
 have hlj:=D.hl.lj
 have hj0:=(hgo.j z0 (by simp)).1
 have hj1:=(hgo.j z1 (by simp)).1
 have hj2:=(hgo.j z2 (by simp)).1
 have q0:=ai8 D.hl D.li P.h0 (amd P.p0)
 have q1:=ai8 D.hl D.li P.h1 (amd P.p1)
 have q2:=ai8 D.hl D.li P.h2 P.t1
 have q3:=ai8 D.hl D.li P.h2 P.t2
 obtain ⟨y1,y2⟩:=af8 D.hl D.li D.al D.hc P.h0 P.p0
 obtain ⟨y3,y4⟩:=af8 D.hl D.li D.al D.hc P.h1 P.p1
 refine gF0 func51 ?_
 refine gc (ael l D.hl D.li) ?_
 refine gi (aae hG) ?_
 refine gi (rfl) ?_
 refine gD ?_
 refine gi (rfl) ?_
 refine gi (adl (n:=z0.toNat) (by omega) P.h0) ?_
 refine gc (age j0 i) ?_
 refine gD ?_
 refine gc (agq D P.h0 P.p0) ?_
 refine gc (aeq D.hl D.li P.h0 (amd P.p0)) ?_
 refine gD ?_
 refine gC (fun ht64=>?_) (fun ht64=>?_) (st2:=(16,0))
 ·refine gi (rfl) ?_
  refine gi (rfl) ?_
  refine gi (adl (n:=z1.toNat) (by omega) P.h1) ?_
  refine gc (age j1 k) ?_
  refine gD ?_
  refine gc (agq D P.h1 P.p1) ?_
  refine gc (aeq D.hl D.li P.h1 (amd P.p1)) ?_
  refine gD ?_
  refine gi (rfl) ?_
  refine gi (adl (n:=z2.toNat) (by omega) P.h2) ?_
  refine gc (age j2 i) ?_
  refine gD ?_
  refine gc (aeq D.hl D.li P.h2 P.t1) ?_
  refine gc (ayp D.hl D.li P.h2 ne P.t1 P.t2) ?_
  refine gD ?_
  refine gc (bhb D q2 q0) ?_
  refine gc (bhb D q3 q1) ?_
  refine gD ?_
  refine gc (bo2 D y3 y4 y1 y2) ?_
  refine gE1 ?_
  rfl
 ·cases ht64
theorem a23 {l:Li} {a:As} (D:DyR l a) {n:Nat} {i z0 z1:Int} {j0 j:Jt} (hG:(splitG l)[n]? = some ⟨2, [i], [z0, z1], 0⟩) (hgo:GrOk l ⟨2, [i], [z0, z1], 0⟩) (P:SlP l a ⟨2, [i], [z0, z1], 0⟩ 2 i z0 z1 j0 j) (ha:j.a = i) (hb:Pd a j.b) :
  FnC prog 51 [l.av,i64 n,a.av] (.agg (v2C l a i j0 j)):=by
 have hsl:=ahu D.li
 have hlj:=D.hl.lj
 have hj0:=(hgo.j z0 (by simp)).1
 have hj1:=(hgo.j z1 (by simp)).1
 have q0:=ai8 D.hl D.li P.h0 (amd P.p0)
 obtain ⟨i1,i2,i3,i4,i5⟩:=aet D.li P.h1
 have hown:FnC prog 116 [l.av,i64 i,i64 j.point] (qN (mkQ l i j.point)):=by rw [<- ha]; exact agr D.hl D.li i1 i3
 have q2:Sm 1000 (mkQ l i j.point):=by rw [<- ha]; exact alx D.hl D.li i1 i3
 obtain ⟨y3,y4⟩:=afw D.hl D.li D.al D.hc i2 (i5 P.hk) hb
 obtain ⟨y7,y8⟩:=afw D.hl D.li D.al D.hc i2 i4 hb
 haveI c:=D.al.ct D.hc
 haveI:=y3; haveI:=y4; haveI:=y7; haveI:=y8
 have hs:=asu (ts:=llq a.rs) (u:=4000) (k:=300000) (a:=sX (plE l a j.b j.to).1) (b:=sX (plE l a j.b j.to).2) (a2:=sX (plE l a j.b j.on).1) (b2:=sX (plE l a j.b j.on).2)
 rw [<- (ab3 D.al.tr D.hc).2] at hs
 refine gF0 func51 ?_
 refine gc (ael l D.hl D.li) ?_
 refine gi (aae hG) ?_
 refine gi (rfl) ?_
 refine gD ?_
 refine gi (rfl) ?_
 refine gi (adl (n:=z0.toNat) (by omega) P.h0) ?_
 refine gc (age j0 i) ?_
 refine gD ?_
 refine gc (agq D P.h0 P.p0) ?_
 refine gc (aeq D.hl D.li P.h0 (amd P.p0)) ?_
 refine gD ?_
 refine gC (fun ht64=>?_) (fun ht64=>?_) (st1:=(9,0))
 ·cases ht64
 ·refine gC (fun ht146=>?_) (fun ht146=>?_) (st2:=(21, 0))
  ·refine gi (rfl) ?_
   refine gi (adl (n:=z1.toNat) (by omega) P.h1) ?_
   refine gD ?_
   refine gc (amf D i2 i4 hb) ?_
   refine gc (amf D i2 (i5 P.hk) hb) ?_
   refine gc hown ?_
   refine gD ?_
   refine gc (bhb D q2 q0) ?_
   refine gc hs ?_
   refine gE1 ?_
   rfl
  ·cases ht146
theorem a2z {l:Li} {a:As} (D:DyR l a) {n:Nat} {i z0 z1:Int} {j0 j:Jt} (hG:(splitG l)[n]? = some ⟨3, [i], [z0, z1], 0⟩) (hgo:GrOk l ⟨3, [i], [z0, z1], 0⟩) (P:SlP l a ⟨3, [i], [z0, z1], 0⟩ 3 i z0 z1 j0 j) (hj:j.b = i) (hb:Pd a j.a) :
  FnC prog 51 [l.av,i64 n,a.av] (.agg (v3C l a i j0 j)):=by
 have hsl:=ahu D.li
 have hlj:=D.hl.lj
 have hj0:=(hgo.j z0 (by simp)).1
 have hj1:=(hgo.j z1 (by simp)).1
 have q0:=ai8 D.hl D.li P.h0 (amd P.p0)
 obtain ⟨i1,i2,i3,i4,i5⟩:=aet D.li P.h1
 have ho1:FnC prog 116 [l.av,i64 i,i64 j.on] (qN (mkQ l i j.on)):=by rw [<- hj]; exact agr D.hl D.li i2 i4
 have ho2:FnC prog 116 [l.av,i64 i,i64 j.to] (qN (mkQ l i j.to)):=by rw [<- hj]; exact agr D.hl D.li i2 (i5 P.hk)
 have q1:Sm 1000 (mkQ l i j.on):=by rw [<- hj]; exact alx D.hl D.li i2 i4
 have q2:Sm 1000 (mkQ l i j.to):=by rw [<- hj]; exact alx D.hl D.li i2 (i5 P.hk)
 obtain ⟨y1,y2⟩:=af8 D.hl D.li D.al D.hc P.h0 P.p0
 obtain ⟨y3,y4⟩:=afw D.hl D.li D.al D.hc i1 i3 hb
 haveI c:=D.al.ct D.hc
 obtain ⟨x1,x2⟩:=awd c q0
 obtain ⟨x3,x4⟩:=awd c q1
 obtain ⟨x5,x6⟩:=awd c q2
 haveI:=x1.zu; haveI:=x2.zu; haveI:=x3.zu; haveI:=x4.zu; haveI:=x5.zu; haveI:=x6.zu
 have s1:=asu (ts:=llq a.rs) (u:=4000) (k:=300000) (a:=sh 0 ((mkQ l i j.to).1:Rat)) (b:=sh 0 ((mkQ l i j.to).2:Rat)) (a2:=sh 0 ((mkQ l i j.on).1:Rat)) (b2:=sh 0 ((mkQ l i j.on).2:Rat))
 have s2:=baa (ts:=llq a.rs) (u:=4000) (k:=300000) (a:=sX (qE (mkQ l i j.to).1 - qE (mkQ l i j.on).1:Et (llq a.rs))) (b:=sX (qE (mkQ l i j.to).2 - qE (mkQ l i j.on).2:Et (llq a.rs))) (a2:=sX (qE (mkQ l i j.to).1 - qE (mkQ l i j.on).1:Et (llq a.rs))) (b2:=sX (qE (mkQ l i j.to).2 - qE (mkQ l i j.on).2:Et (llq a.rs)))
 have s3:=asu (ts:=llq a.rs) (u:=4000) (k:=300000) (a:=sh 0 ((mkQ l i j.on).1:Rat)) (b:=sh 0 ((mkQ l i j.on).2:Rat)) (a2:=sh 0 ((afj l j0 i).1:Rat)) (b2:=sh 0 ((afj l j0 i).2:Rat))
 have s4:=a0u (ts:=llq a.rs) (u:=4000) (k:=300000) (a:=sX (qE (mkQ l i j.to).1 - qE (mkQ l i j.on).1:Et (llq a.rs))) (b:=sX (qE (mkQ l i j.to).2 - qE (mkQ l i j.on).2:Et (llq a.rs))) (a2:=sX (qE (mkQ l i j.on).1 - qE (afj l j0 i).1:Et (llq a.rs))) (b2:=sX (qE (mkQ l i j.on).2 - qE (afj l j0 i).2:Et (llq a.rs)))
 rw [<- (ab3 D.al.tr D.hc).2] at s1 s2 s3 s4
 refine gF0 func51 ?_
 refine gc (ael l D.hl D.li) ?_
 refine gi (aae hG) ?_
 refine gi (rfl) ?_
 refine gD ?_
 refine gi (rfl) ?_
 refine gi (adl (n:=z0.toNat) (by omega) P.h0) ?_
 refine gc (age j0 i) ?_
 refine gD ?_
 refine gc (agq D P.h0 P.p0) ?_
 refine gc (aeq D.hl D.li P.h0 (amd P.p0)) ?_
 refine gD ?_
 refine gC (fun ht64=>?_) (fun ht64=>?_) (st1:=(9,0))
 ·cases ht64
 ·refine gC (fun ht146=>?_) (fun ht146=>?_) (st1:=(17, 0))
  ·cases ht146
  ·refine gC (fun ht193=>?_) (fun ht193=>?_) (st2:=(77777, 0))
   ·refine gi (rfl) ?_
    refine gi (adl (n:=z1.toNat) (by omega) P.h1) ?_
    refine gD ?_
    refine gc (amf D i1 i3 hb) ?_
    refine gc ho1 ?_
    refine gc ho2 ?_
    refine gD ?_
    refine gc s1 ?_
    refine gc s2 ?_
    refine gc s3 ?_
    refine gc s4 ?_
    refine gD ?_
    refine gc (bo2 D y3 y4 y1 y2) ?_
    refine gE1 ?_
    rfl
   ·cases ht193
theorem a4a {l:Li} {a:As} (D:DyR l a) {n:Nat} {i z0 d:Int} {j0:Jt} (hG:(splitG l)[n]? = some ⟨0, [i], [z0], d⟩) (hgo:GrOk l ⟨0, [i], [z0], d⟩) (h0:l.joints[z0.toNat]? = some j0) (p0:PinP l a j0 i) :
  FnC prog 51 [l.av,i64 n,a.av] (.agg (v0C l a i j0)):=by
 have hsl:=ahu D.li
 have hlj:=D.hl.lj
 have hj0:=(hgo.j z0 (by simp)).1
 refine gF0 func51 ?_
 refine gc (ael l D.hl D.li) ?_
 refine gi (aae hG) ?_
 refine gi (rfl) ?_
 refine gD ?_
 refine gi (rfl) ?_
 refine gi (adl (n:=z0.toNat) (by omega) h0) ?_
 refine gc (age j0 i) ?_
 refine gD ?_
 refine gc (agq D h0 p0) ?_
 refine gc (aeq D.hl D.li h0 (amd p0)) ?_
 refine gD ?_
 refine gC (fun ht64=>?_) (fun ht64=>?_) (st1:=(9,0))
 ·cases ht64
 ·refine gC (fun ht146=>?_) (fun ht146=>?_) (st1:=(17, 0))
  ·cases ht146
  ·refine gC (fun ht193=>?_) (fun ht193=>?_) (st1:=(22, 0))
   ·cases ht193
   ·refine gE1 ?_
    rfl
end Go.Lw
namespace Go.Lw
open Go.Proofs
section
variable {ts:List (List Rat)} {a b c a2 b2 c2:List Rat} {x y z x2 y2 z2:Et ts}
end
theorem DyOk.drv {l:Li} {k:Int} {a:As} {own:Bool} {n:Nat} {g:Gr} (h:DyOk l k a own n g) (hk:g.kind = 0):∃ i z0 d j0, g = ⟨0, [i], [z0], d⟩ /\ l.joints[z0.toNat]? = some j0 /\ PinP l a j0 i:=by
 have hd:=h.dy
 cases hd with
 | rrr _ _ _ _ _ _ _=>exact absurd hk (by simp)
 | pr _ _ _=>exact absurd hk (by simp)
 | rp _ _ _=>exact absurd hk (by simp)
 | @drv b z d j x t d0 hd hb=>exact ⟨b,z,d,j,rfl,t.hj,h.pin rfl t (by simp) (by simp)⟩
theorem aif {l:Li} {a:As} (D:DyR l a) {b:Int} {p:Pl} (hp:a.bs[b.toNat]? = some p) (hn:aaz a.rs p.l = 0) {q:Rat × Rat} (hq:Sm 1000 q) :
  FnC prog 107 [ae5 a.rs,p.av,qN q] (eN (aoE a b q)):=by
 obtain ⟨tw,hta⟩:=ab3 D.al.tr D.hc
 have h5:a.rs.length <= 5:=by have:=tw.five; rwa [ahe] at this
 have h9:=ag4 hn (D.al.nr p (mem_of_getElem? hp)) h5
 have kb:=kb4 tw.three
 have hlm:=aea (llq a.rs).length
 obtain ⟨e1,ok⟩:=h9
 rw [<- ahe a.rs] at ok
 have nx:=Nm.ofQ ok.c.five (Cb.one (hq.x.mono (f:=4000) (by omega)))
 have ny:=Nm.ofQ ok.c.five (Cb.one (hq.y.mono (f:=4000) (by omega)))
 have nX:=ajz tw ok.c ok.s nx ny
 have nY:=aj3 tw ok.c ok.s nx ny
 obtain ⟨K,hK⟩:∃ K,kB 40000 (llq a.rs).length = K:=⟨_,rfl⟩
 rw [hK] at nX nY kb
 have hadd:=apq (e:=2 * (4000 + 4000 + K) + 1) tw nX nY (ok.x.mono (by omega)) (ok.y.mono (by omega)) (by omega)
 have htn:=anu tw ok.c ok.s nx ny (by rw [hK]; omega)
 rw [ast,as4] at hadd
 rw [<- hta] at hadd htn
 unfold aoE
 rw [aaf hp,e1]
 refine gF0 func107 ?_
 refine gc htn ?_
 refine gc hadd ?_
 refine gD ?_
 refine gE1 ?_
 rfl
end Go.Lw
namespace Go.Lw
open Go.Proofs
theorem bjt {ts:List (List Rat)} (c:Ct ts 4000 300000) {p q m n:Et ts × Et ts} (y1:Zu 4000 300000 p.1 40 40) (y2:Zu 4000 300000 p.2 40 40) (y3:Zu 4000 300000 q.1 40 40) (y4:Zu 4000 300000 q.2 40 40)
  (y5:Zu 4000 300000 m.1 40 40) (y6:Zu 4000 300000 m.2 40 40) (y7:Zu 4000 300000 n.1 40 40) (y8:Zu 4000 300000 n.2 40 40) :
  FnC prog 106 [ad7 ts,eN p,eN q] (eN (sbE p q)) /\ FnC prog 106 [ad7 ts,eN m,eN n] (eN (sbE m n)) /\
  FnC prog 105 [ad7 ts,eN (sbE p q),eN (sbE m n)] (nA (sX (bks (sbE p q) (sbE m n)))) /\ FnC prog 108 [ad7 ts,eN (sbE p q),eN (sbE m n)] (nA (sX (a5i (sbE p q) (sbE m n)))):=by
 haveI:=c; haveI:=y1; haveI:=y2; haveI:=y3; haveI:=y4; haveI:=y5; haveI:=y6; haveI:=y7; haveI:=y8
 have s1:=asu (ts:=ts) (u:=4000) (k:=300000) (a:=sX p.1) (b:=sX p.2) (a2:=sX q.1) (b2:=sX q.2)
 have s2:=asu (ts:=ts) (u:=4000) (k:=300000) (a:=sX m.1) (b:=sX m.2) (a2:=sX n.1) (b2:=sX n.2)
 have s3:=a0u (ts:=ts) (u:=4000) (k:=300000) (a:=sX (p.1 - q.1)) (b:=sX (p.2 - q.2)) (a2:=sX (m.1 - n.1)) (b2:=sX (m.2 - n.2))
 have s4:=baa (ts:=ts) (u:=4000) (k:=300000) (a:=sX (p.1 - q.1)) (b:=sX (p.2 - q.2)) (a2:=sX (m.1 - n.1)) (b2:=sX (m.2 - n.2))
 exact ⟨s1,s2,s3,s4⟩
theorem a3l {l:Li} {a:As} (D:DyR l a) {kk:Int} {n:Nat} {i k z0 z1 z2:Int} {j0 j1 j2:Jt} (ok:DyOk l kk a true n ⟨1, [i, k], [z0, z1, z2], 0⟩) (P:RrrP l a ⟨1, [i, k], [z0, z1, z2], 0⟩ i k z0 z1 z2 j0 j1 j2) :
  FnC prog 45 [l.av,i64 n,a.av] (nA (sX (asj l a ⟨1,[i,k],[z0,z1,z2],0⟩))):=by
 have hbl:=D.al.bl
 have hi0:=(ok.ok.b i (by simp)).1
 obtain ⟨p,hp,hn⟩:=ok.own (b:=i) (by simp)
 have hil:=(List.getElem?_eq_some_iff.1 hp).1
 have q2:=ai8 D.hl D.li P.h2 P.t1
 obtain ⟨y1,y2⟩:=af8 D.hl D.li D.al D.hc P.h0 P.p0
 obtain ⟨y3,y4⟩:=af8 D.hl D.li D.al D.hc P.h1 P.p1
 obtain ⟨y5,y6⟩:=ars D.al D.hc (ok.own (b:=i) (by simp)) q2
 have c:=D.al.ct D.hc
 obtain ⟨s1,s2,s3,_⟩:=bjt c y3 y4 y1 y2 y5 y6 y1 y2
 rw [<- (ab3 D.al.tr D.hc).2] at s1 s2 s3
 rw [be5 P]
 refine gF0 func45 ?_
 refine gc (asl D ok.hg ok.ok P ok.ne) ?_
 refine gD ?_
 refine gi (adl (n:=i.toNat) (by omega) hp) ?_
 refine gC (fun ht24=>?_) (fun ht24=>?_) (st2:=(6,0))
 ·refine gc s1 ?_
  refine gc (aif D hp hn q2) ?_
  refine gc s2 ?_
  refine gc s3 ?_
  refine gD ?_
  refine gE1 ?_
  rfl
 ·cases ht24
theorem a20 {l:Li} {a:As} (D:DyR l a) {kk:Int} {n:Nat} {i z0 z1:Int} {j0 j:Jt} (ok:DyOk l kk a true n ⟨2, [i], [z0, z1], 0⟩) (P:SlP l a ⟨2, [i], [z0, z1], 0⟩ 2 i z0 z1 j0 j) (ha:j.a = i) (hb:Pd a j.b) :
  FnC prog 45 [l.av,i64 n,a.av] (nA (sX (asj l a ⟨2,[i],[z0,z1],0⟩))):=by
 have hbl:=D.al.bl
 have hi0:=(ok.ok.b i (by simp)).1
 obtain ⟨p,hp,hn⟩:=ok.own (b:=i) (by simp)
 have hil:=(List.getElem?_eq_some_iff.1 hp).1
 obtain ⟨i1,i2,i3,i4,i5⟩:=aet D.li P.h1
 have q2:Sm 1000 (mkQ l i j.point):=by rw [<- ha]; exact alx D.hl D.li i1 i3
 obtain ⟨y1,y2⟩:=af8 D.hl D.li D.al D.hc P.h0 P.p0
 obtain ⟨y3,y4⟩:=afw D.hl D.li D.al D.hc i2 (i5 P.hk) hb
 obtain ⟨y7,y8⟩:=afw D.hl D.li D.al D.hc i2 i4 hb
 obtain ⟨y5,y6⟩:=ars D.al D.hc (ok.own (b:=i) (by simp)) q2
 have c:=D.al.ct D.hc
 obtain ⟨s1,s2,_,s4⟩:=bjt c y3 y4 y7 y8 y5 y6 y1 y2
 rw [<- (ab3 D.al.tr D.hc).2] at s1 s2 s4
 rw [bfe P]
 refine gF0 func45 ?_
 refine gc (a23 D ok.hg ok.ok P ha hb) ?_
 refine gD ?_
 refine gi (adl (n:=i.toNat) (by omega) hp) ?_
 refine gC (fun ht24=>?_) (fun ht24=>?_) (st1:=(5,0))
 ·cases ht24
 ·refine gC (fun ht43=>?_) (fun ht43=>?_) (st2:=(8, 0))
  ·refine gc (aif D hp hn q2) ?_
   refine gc s2 ?_
   refine gc s4 ?_
   refine gD ?_
   refine gE1 ?_
   rfl
  ·cases ht43
theorem a4c {l:Li} {a:As} (D:DyR l a) {kk:Int} {n:Nat} {i z0 z1:Int} {j0 j:Jt} (ok:DyOk l kk a true n ⟨3, [i], [z0, z1], 0⟩) (P:SlP l a ⟨3, [i], [z0, z1], 0⟩ 3 i z0 z1 j0 j) (hj:j.b = i) (hb:Pd a j.a) :
  FnC prog 45 [l.av,i64 n,a.av] (nA (sX (asj l a ⟨3,[i],[z0,z1],0⟩))):=by
 have hbl:=D.al.bl
 have hi0:=(ok.ok.b i (by simp)).1
 obtain ⟨p,hp,hn⟩:=ok.own (b:=i) (by simp)
 have hil:=(List.getElem?_eq_some_iff.1 hp).1
 obtain ⟨i1,i2,i3,i4,i5⟩:=aet D.li P.h1
 have q1:Sm 1000 (mkQ l i j.on):=by rw [<- hj]; exact alx D.hl D.li i2 i4
 have q2:Sm 1000 (mkQ l i j.to):=by rw [<- hj]; exact alx D.hl D.li i2 (i5 P.hk)
 obtain ⟨y1,y2⟩:=af8 D.hl D.li D.al D.hc P.h0 P.p0
 obtain ⟨y3,y4⟩:=afw D.hl D.li D.al D.hc i1 i3 hb
 obtain ⟨y5,y6⟩:=ars D.al D.hc (ok.own (b:=i) (by simp)) q1
 obtain ⟨y7,y8⟩:=ars D.al D.hc (ok.own (b:=i) (by simp)) q2
 have c:=D.al.ct D.hc
 obtain ⟨s1,s2,_,s4⟩:=bjt c y7 y8 y5 y6 y3 y4 y1 y2
 rw [<- (ab3 D.al.tr D.hc).2] at s1 s2 s4
 rw [bgt P hj]
 refine gF0 func45 ?_
 refine gc (a2z D ok.hg ok.ok P hj hb) ?_
 refine gD ?_
 refine gi (adl (n:=i.toNat) (by omega) hp) ?_
 refine gC (fun ht24=>?_) (fun ht24=>?_) (st1:=(5,0))
 ·cases ht24
 ·refine gC (fun ht43=>?_) (fun ht43=>?_) (st1:=(7, 0))
  ·cases ht43
  ·refine gC (fun ht58=>?_) (fun ht58=>?_) (st2:=(77777, 0))
   ·refine gc (aif D hp hn q2) ?_
    refine gc (aif D hp hn q1) ?_
    refine gc s1 ?_
    refine gc s2 ?_
    refine gc s4 ?_
    refine gD ?_
    refine gE1 ?_
    rfl
   ·cases ht58
theorem a3m {l:Li} {a:As} (D:DyR l a) {kk:Int} {n:Nat} {i z0 d:Int} {j0:Jt} (ok:DyOk l kk a true n ⟨0, [i], [z0], d⟩) (h0:l.joints[z0.toNat]? = some j0) (p0:PinP l a j0 i) :
  FnC prog 45 [l.av,i64 n,a.av] (nA (sh 0 ((1:Int):Rat))):=by
 have hbl:=D.al.bl
 have hi0:=(ok.ok.b i (by simp)).1
 obtain ⟨p,hp,hn⟩:=ok.own (b:=i) (by simp)
 have hil:=(List.getElem?_eq_some_iff.1 hp).1
 refine gF0 func45 ?_
 refine gc (a4a D ok.hg ok.ok h0 p0) ?_
 refine gD ?_
 refine gi (adl (n:=i.toNat) (by omega) hp) ?_
 refine gC (fun ht24=>?_) (fun ht24=>?_) (st1:=(5,0))
 ·cases ht24
 ·refine gC (fun ht43=>?_) (fun ht43=>?_) (st1:=(7, 0))
  ·cases ht43
  ·refine gC (fun ht58=>?_) (fun ht58=>?_) (st1:=(9, 0))
   ·cases ht58
   ·refine gc (axv 1 (by omega)) ?_
    refine gE1 ?_
    rfl
theorem a6a {l:Li} {a:As} (D:DyR l a) {k:Int} {n:Nat} {g:Gr} (ok:DyOk l k a true n g):FnC prog 45 [l.av, i64 n, a.av] (nA (a0d l a g)):=by
 unfold a0d
 by_cases h0:g.kind = 0
 ·obtain ⟨i, z0, d, j0, rfl, hj, hp⟩:=ok.drv h0
  rw [if_pos rfl]
  exact a3m D ok hj hp
 ·rw [if_neg h0]
  by_cases h1:g.kind = 1
  ·obtain ⟨i, k2, z0, z1, z2, j0, j1, j2, P⟩:=ok.rrr h1
   obtain rfl:=P.eq
   exact a3l D ok P
  ·by_cases h2:g.kind = 2
   ·obtain ⟨i, z0, z1, j0, j, P, ha, hb⟩:=ok.pr h2
    obtain rfl:=P.eq
    exact a20 D ok P ha hb
   ·obtain ⟨i, z0, z1, j0, j, P, _, hj, hb⟩:=ok.rp h0 h1 h2
    obtain rfl:=P.eq
    exact a4c D ok P hj hb
end Go.Lw
namespace Go.Lw
open Go.Proofs
theorem bbe {l:Li} {k:Int} {a:As} {own:Bool} {n:Nat} {g:Gr} (hl:l.ok) (al:AL a) (ok:DyOk l k a own n g):DyR l a:=⟨hl,ok.li,al,ok.chk⟩
theorem ba6 {ts:List (List Rat)} (c:Ct ts 4000 300000) {p q m n:Et ts × Et ts} (y1:Zu 4000 300000 p.1 40 40) (y2:Zu 4000 300000 p.2 40 40) (y3:Zu 4000 300000 q.1 40 40) (y4:Zu 4000 300000 q.2 40 40)
  (y5:Zu 4000 300000 m.1 40 40) (y6:Zu 4000 300000 m.2 40 40) (y7:Zu 4000 300000 n.1 40 40) (y8:Zu 4000 300000 n.2 40 40) :
  (∃ a b,Zu 4000 300000 (bks (sbE p q) (sbE m n)) a b /\ a + b <= 5000) /\ ∃ a b,Zu 4000 300000 (a5i (sbE p q) (sbE m n)) a b /\ a + b <= 5000:=by
 haveI:=c; haveI:=y1; haveI:=y2; haveI:=y3; haveI:=y4; haveI:=y5; haveI:=y6; haveI:=y7; haveI:=y8
 exact ⟨⟨_,_,(inferInstance:Zu 4000 300000 (crsE (p.1 - q.1) (p.2 - q.2) (m.1 - n.1) (m.2 - n.2)) _ _),by decide⟩,⟨_,_,(inferInstance:Zu 4000 300000 (dotE (p.1 - q.1) (p.2 - q.2) (m.1 - n.1) (m.2 - n.2)) _ _),by decide⟩⟩
theorem bnk {l:Li} {k:Int} {a:As} {n:Nat} {g:Gr} (D:DyR l a) (ok:DyOk l k a true n g) (h0:g.kind ≠ 0):∃ w v, Zu 4000 300000 (asj l a g) w v /\ w + v <= 5000:=by
 have c:=D.al.ct D.hc
 by_cases h1:g.kind = 1
 ·obtain ⟨i, k2, z0, z1, z2, j0, j1, j2, P⟩:=ok.rrr h1
  obtain ⟨y1,y2⟩:=af8 D.hl D.li D.al D.hc P.h0 P.p0
  obtain ⟨y3,y4⟩:=af8 D.hl D.li D.al D.hc P.h1 P.p1
  obtain ⟨y5,y6⟩:=ars D.al D.hc (ok.own (b:=i) (by rw [P.eq]; simp)) (ai8 D.hl D.li P.h2 P.t1)
  rw [be5 P]
  exact (ba6 c y3 y4 y1 y2 y5 y6 y1 y2).1
 ·by_cases h2:g.kind = 2
  ·obtain ⟨i, z0, z1, j0, j, P, ha, hb⟩:=ok.pr h2
   obtain ⟨i1,i2,i3,i4,i5⟩:=aet D.li P.h1
   have q2:Sm 1000 (mkQ l i j.point):=by rw [<- ha]; exact alx D.hl D.li i1 i3
   obtain ⟨y1,y2⟩:=af8 D.hl D.li D.al D.hc P.h0 P.p0
   obtain ⟨y3,y4⟩:=afw D.hl D.li D.al D.hc i2 (i5 P.hk) hb
   obtain ⟨y7,y8⟩:=afw D.hl D.li D.al D.hc i2 i4 hb
   obtain ⟨y5,y6⟩:=ars D.al D.hc (ok.own (b:=i) (by rw [P.eq]; simp)) q2
   rw [bfe P]
   exact (ba6 c y3 y4 y7 y8 y5 y6 y1 y2).2
  ·obtain ⟨i, z0, z1, j0, j, P, _, hj, hb⟩:=ok.rp h0 h1 h2
   obtain ⟨i1,i2,i3,i4,i5⟩:=aet D.li P.h1
   have q1:Sm 1000 (mkQ l i j.on):=by rw [<- hj]; exact alx D.hl D.li i2 i4
   have q2:Sm 1000 (mkQ l i j.to):=by rw [<- hj]; exact alx D.hl D.li i2 (i5 P.hk)
   obtain ⟨y1,y2⟩:=af8 D.hl D.li D.al D.hc P.h0 P.p0
   obtain ⟨y3,y4⟩:=afw D.hl D.li D.al D.hc i1 i3 hb
   obtain ⟨y5,y6⟩:=ars D.al D.hc (ok.own (b:=i) (by rw [P.eq]; simp)) q1
   obtain ⟨y7,y8⟩:=ars D.al D.hc (ok.own (b:=i) (by rw [P.eq]; simp)) q2
   rw [bgt P hj]
   exact (ba6 c y7 y8 y5 y6 y3 y4 y1 y2).2
end Go.Lw
namespace Go.Lw
structure SameJ (l' l:Li):Prop where
  j:l'.joints = l.joints
  d:l'.drivers = l.drivers
  b:l'.bodies.length = l.bodies.length
section
variable {l' l:Li} (h:SameJ l' l)
include h
theorem SameJ.jointI (kind body:Int) (oth:List Bool):jointI l' kind body oth = jointI l kind body oth:=by unfold Lw.jointI; rw [h.j]
theorem SameJ.freeB (k:List Bool) (i:Int):freeB l' k i = freeB l k i:=by unfold Lw.freeB ak7; rw [h.d]
theorem SameJ.drHit (k:List Bool) (i:Nat):drHit l' k i = drHit l k i:=by unfold Lw.drHit; simp only [h.d,h.jointI]
theorem SameJ.driverG (k:List Bool):driverG l' k = driverG l k:=by unfold Lw.driverG; simp only [h.d,h.jointI,h.drHit]
theorem SameJ.prHit (k:List Bool) (i j:Nat):prHit l' k i j = prHit l k i j:=by unfold Lw.prHit; simp only [h.freeB,h.jointI,h.b]
theorem SameJ.prAt (k:List Bool) (i:Nat):prAt l' k i = prAt l k i:=by unfold Lw.prAt; simp only [h.prHit,h.b]
theorem SameJ.prG (k:List Bool) (i j:Nat):prG l' k i j = prG l k i j:=by unfold Lw.prG; simp only [h.jointI,h.b]
theorem SameJ.pairG (k:List Bool):pairG l' k = pairG l k:=by unfold Lw.pairG; simp only [h.prAt,h.prG,h.b]
theorem SameJ.sgHit (k:List Bool) (i:Nat):sgHit l' k i = sgHit l k i:=by unfold Lw.sgHit; simp only [h.freeB,h.jointI]
theorem SameJ.sgG (k:List Bool) (i:Nat):sgG l' k i = sgG l k i:=by unfold Lw.sgG; simp only [h.jointI,h.j]
theorem SameJ.singleG (k:List Bool):singleG l' k = singleG l k:=by
 unfold Lw.singleG
 have e:Lw.sgG l' k = Lw.sgG l k:=funext (h.sgG k)
 simp only [h.sgHit,h.b,e]
theorem SameJ.nextG (k:List Bool):nextG l' k = nextG l k:=by unfold Lw.nextG; rw [h.driverG,h.pairG,h.singleG]
theorem SameJ.findFrom:∀ (n:Nat) (k:List Bool) (out:List Gr), findFrom l' n k out = findFrom l n k out
 | 0,k,out=>rfl
 | n + 1, k, out=>by
  unfold Lw.findFrom
  rw [h.nextG]
  cases Lw.nextG l k with
  | none=>rfl
  | some g=>exact SameJ.findFrom n _ _
theorem SameJ.findG:findG l' = findG l:=by unfold Lw.findG; rw [h.b,h.findFrom]
theorem SameJ.splitE:splitE l' = splitE l:=by unfold Lw.splitE adj agx; rw [h.findG,h.b,h.j]
theorem SameJ.splitG:splitG l' = splitG l:=by unfold Lw.splitG; rw [h.splitE,h.findG]
end
end Go.Lw
namespace Go.Lw
def Jt.vs (j:Jt):List Value:=[.string j.name,.int .i64 j.kind,.int .i64 j.a,.int .i64 j.point,.int .i64 j.b,.int .i64 j.on,.int .i64 j.to]
def Dr.vs (d:Dr):List Value:=[.string d.name,.int .i64 d.body]
structure Gr.sm (g:Gr):Prop where
  b:g.bodies.length <= 100
  j:g.joints.length <= 100
theorem blp {l:Li} (hl:liE l = 0):(∀ g ∈ splitG l, g.sm) /\ (splitG l).length <= 100:=by
 refine ⟨fun g hg=>?_,?_⟩
 ·obtain ⟨_, ho⟩:=amv hl hg
  have:=ho.lb; have:=ho.lj
  exact ⟨by omega,by omega⟩
 ·unfold splitG; split
  ·have:=(ake hl).2; omega
  ·exact zero_le _
end Go.Lw
namespace Go.Lw
open Go.Proofs
end Go.Lw
namespace Go.Lw
open Go.Proofs
theorem bk3 {l:Li} {k:Int} {a:As} {n:Nat} {g:Gr} (D:DyR l a) (ok:DyOk l k a true n g):∃ e, Nm (llq a.rs).length e (a0d l a g) /\ e <= 1520000000:=by
 haveI c:=D.al.ct D.hc
 have hz:∃ x w v, Zl (llq a.rs) 4000 300000 (a0d l a g) x w v /\ w + v <= 5000:=by
  unfold a0d
  by_cases h0:g.kind = 0
  ·rw [if_pos h0]
   haveI:Qz 4000 (((1:Int)):Rat) 1:=Qz.int (c:=Ct.cx (c:=c)) (by decide)
   exact ⟨_,_,_,(inferInstance:Zl (llq a.rs) 4000 300000 (sh 0 (((1:Int):Rat):Rat)) _ _ _),by decide⟩
  ·rw [if_neg h0]
   obtain ⟨w,v,hw,hs⟩:=bnk D ok h0
   exact ⟨_,w,v,(inferInstance:Zl (llq a.rs) 4000 300000 (sX (asj l a g)) _ _ _),hs⟩
 obtain ⟨x,w,v,z,hs⟩:=hz
 exact ⟨_,z.nm,by omega⟩
def bd8 (l:Li) (a:As) (k:Nat):Int:=T.sgn (aan (llq a.rs)) (llq a.rs).length (dec (llq a.rs).length (a0d l a (gAt l k)))
theorem a9m {l:Li} {a:As} (hg:Good l a) (hs:splitE l = 0) {k:Nat} (hk:k < (splitG l).length) :
  ∃ e,Nm (llq a.rs).length e (a0d l a (gAt l k)) /\ e <= 1520000000:=by
 obtain ⟨n,g,ok⟩:=a50 (avx hg hs hk true)
 have hn:(k:Int) = n:=ok.hk
 have e:gAt l k = g:=aaf (by have:=ok.hg; rw [show (k:Int).toNat = n by omega]; exact this)
 rw [e]
 exact bk3 (bbe hg.lo hg.al ok) ok
theorem a5g {l:Li} {a:As} (hg:Good l a) (hs:splitE l = 0) {k:Nat} (hk:k < (splitG l).length) :
  FnC prog 39 [l.av,i64 k,a.av] (.tup [nA (a0d l a (gAt l k)),.v .nilIface]):=by
 have h:=beo l hg.lo k a hg.al
 rw [avx hg hs hk true,if_pos rfl] at h
 exact h
theorem a28 {l:Li} {a:As} (hg:Good l a) (hs:splitE l = 0) {k:Nat} (hk:k < (splitG l).length) :
  FnC prog 40 [ae5 a.rs,nA (a0d l a (gAt l k))] (.tup [i64 (bd8 l a k),.v .nilIface]):=by
 obtain ⟨tw,hta,h5,hll⟩:=hg.tw
 obtain ⟨e,hn,he⟩:=a9m hg hs hk
 have hlm:=aea (llq a.rs).length
 rw [hta]
 exact aql tw hn (by omega)
end Go.Lw
namespace Go.Lw
open Go.Proofs
theorem awu (l:Li) (hl:l.ok) (xs:List Tn) (hx:∀ x ∈ xs, x.t.ok /\ Qb 1000 x.t.q) (hxl:xs.length <= 281474976710656) (a:As) (ha:AL a) :
  FnC prog 49 [l.av,.lst 4 (xs.map Tn.av),a.av] (.tup [.lst 4 ((if acE l xs a = 0 then splitG l else []).map Gr.av),ah7 (acE l xs a)]):=by
 refine gF0 func49 ?_
 refine gc (ari l hl) ?_
 refine gC (fun ht18=>?_) (fun ht18=>?_)
 ·have h1:=ac5 ht18
  refine gR ?_
  exact aoz (by rw [bsc rfl h1,if_neg h1]; exact Sub.nil _ _ _) (Sub.of (by rw [bsc rfl h1]))
 ·have h1:=ac7 ht18
  obtain ⟨h1, h2⟩:liE l = 0 /\ splitE l = 0:=by
   by_cases h2:liE l = 0
   ·rw [if_pos h2] at h1; exact ⟨h2,h1⟩
   ·rw [if_neg h2] at h1; exact absurd h1 h2
  refine gc (aom hl xs hx hxl ha) ?_
  refine gC (fun ht28=>?_) (fun ht28=>?_)
  ·have h3:=ac5 ht28
   refine gR ?_
   exact aoz (by rw [bpg h1 h2 h3,if_neg h3]; exact Sub.nil _ _ _) (Sub.of (by rw [bpg h1 h2 h3]))
  ·have h3:=ac7 ht28
   refine gC (fun ht32=>?_) (fun ht32=>?_)
   ·have h4:(flt l xs a).1 ≠ 0:=by
     intro h5
     rw [h3,h5] at ht32
     cases ht32
    refine gR ?_
    exact aoz (by rw [bpd h1 h2 h3 h4,if_neg (by decide)]; exact Sub.nil _ _ _) (Sub.of (by rw [bpd h1 h2 h3 h4]; rfl))
   ·have h4:(flt l xs a).1 = 0:=by
     refine Decidable.byContradiction fun h5=>?_
     rw [decide_eq_false h5,Bool.and_false] at ht32
     cases ht32
    refine gE2 ?_
    rw [bsd h1 h2 h3 h4,if_pos rfl,if_pos h1]; rfl
end Go.Lw
namespace Go.Lw
open Go.Proofs
theorem avw {l:Li} {a:As} (hg:Good l a) {body pt:Int} (h1:inB body l.bodies.length = true) (h2:inB pt (adz l body).length = true) :
  FnC prog 112 [l.av,a.av,i64 body,i64 pt] (.tup [ptA (sh (llq a.rs).length (ai4 l a body pt).1) (sh (llq a.rs).length (ai4 l a body pt).2),.v .nilIface]):=by
 obtain ⟨n,k,bd,m,b,hp⟩:=hg.at h1 h2
 obtain ⟨tw,hta,h5,hll⟩:=hg.tw
 have kb:=kb4 tw.three
 have hlm:=aea a.rs.length
 have hlm2:=aea (llq a.rs).length
 obtain ⟨hba,hbo⟩:=hg.pl hp.gb
 have hlb:=hg.lo.lb
 have hn:=hp.hn
 have hk:=hp.hk
 rw [hp.eq]
 subst hn
 subst hk
 have hat:FnC prog 86 [ae5 a.rs, b.av, m.x.av, m.y.av] (.tup [ptA (sh (llq a.rs).length (atP (llq a.rs) b m).1) (sh (llq a.rs).length (atP (llq a.rs) b m).2), .v .nilIface]):=by
  rw [hta,hba,hp.mx,hp.my]
  exact aj5 tw hbo.c hbo.s hbo.x hbo.y hp.qx hp.qy (by omega)
 refine gF0 func112 ?_
 refine gi (aae hp.gbd) ?_
 refine gi (aae hp.gm) ?_
 refine gi (aae hp.gb) ?_
 refine gc hat ?_
 refine gD ?_
 refine gE2 ?_
 first | rfl | (simp; done)
end Go.Lw
namespace Go.Lw
open Go.Proofs
def bjk (ts:List (List Rat)) (a b c d p q:T ts.length):T ts.length:=bfa ts (subT ts a p) (subT ts b q) (subT ts c p) (subT ts d q)
def bbh (ts:List (List Rat)) (a b c d p q:T ts.length):Bool:=decide (T.sgn (aan ts) ts.length (aib ts a b c d p q) = 0) && decide (T.sgn (aan ts) ts.length (bjk ts a b c d p q) <= 0)
theorem a5p (x y:Int):cond (aaa .eql x 0) (aaa .leq y 0) false = (decide (x = 0) && decide (y <= 0)):=by
 by_cases h:x = 0 <;> by_cases h2:y <= 0 <;> simp [aaa,h,h2]
theorem bcr (x y:Int):cond (cond (aaa .eql x 0) (aaa .leq y 0) false) (ago Value.nilIface) false = (decide (x = 0) && decide (y <= 0)):=by
 rw [a5p]; cases (decide (x = 0) && decide (y <= 0)) <;> rfl
theorem ate {ts:List (List Rat)} {r e:Nat} (tw:Tw ts r) {a b c d p q:List Rat} (ha:Nm ts.length e a) (hb:Nm ts.length e b) (hc:Nm ts.length e c) (hd:Nm ts.length e d) (hp:Nm ts.length e p) (hq:Nm ts.length e q)
  (he:16 * e + 20 + 4 * kB r ts.length <= lm ts.length) :
  FnC prog 54 [ad7 ts,ptA a b,ptA c d,ptA p q] (bl (bbh ts (dec ts.length a) (dec ts.length b) (dec ts.length c) (dec ts.length d) (dec ts.length p) (dec ts.length q))):=by
 have s1:=ha.sub hp
 have s2:=hb.sub hq
 have s3:=hc.sub hp
 have s4:=hd.sub hq
 have hD:=arc tw s1 s2 s3 s4 (by omega)
 have hN:=avp tw s1 s2 s3 s4
 simp only [aby] at hD hN
 refine gF0 func54 ?_
 refine gc (aok tw ha hb hc hd hp hq (by omega)) ?_
 refine gcG (fun _=>(ajn tw ha hb hp hq (by omega))) ?_
 refine gcG (fun _=>(ajn tw hc hd hp hq (by omega))) ?_
 refine gcG (fun _=>hD) ?_
 refine gcG (fun _=>(amz tw hN (by omega))) ?_
 refine gD ?_
 refine gE1 ?_
 rw [aby]; exact congrArg bl (a5p _ _)
theorem ap4 {ts:List (List Rat)} {r e:Nat} (tw:Tw ts r) {a b c d p q:List Rat} (ha:Nm ts.length e a) (hb:Nm ts.length e b) (hc:Nm ts.length e c) (hd:Nm ts.length e d) (hp:Nm ts.length e p) (hq:Nm ts.length e q)
  (he:16 * e + 20 + 4 * kB r ts.length <= lm ts.length) :
  FnC prog 113 [ad7 ts,ptA a b,ptA c d,ptA p q] (.tup [bl (bbh ts (dec ts.length a) (dec ts.length b) (dec ts.length c) (dec ts.length d) (dec ts.length p) (dec ts.length q)),.v .nilIface]):=by
 have ho:=aq9 tw ha hb hc hd hp hq
 have s1:=ha.sub hp
 have s2:=hb.sub hq
 have s3:=hc.sub hp
 have s4:=hd.sub hq
 have hD:=aw4 tw s1 s2 s3 s4 (by omega)
 have hN:=avp tw s1 s2 s3 s4
 simp only [aby] at hD hN
 refine gF0 func113 ?_
 refine gc (ach (e:=e) tw [(a,b),(c,d),(p,q)] (by simp only [mem_cons,not_mem_nil,or_false]; rintro x (rfl | rfl | rfl); exact ⟨ha,hb⟩; exact ⟨hc,hd⟩; exact ⟨hp,hq⟩) (by omega) (by simp)) ?_
 refine gC (fun ht24=>?_) (fun ht24=>?_) (st1:=(3,0))
 ·cases ht24
 ·refine gt (aad (Con.rekeyB 28 rfl rfl rfl rfl (aod tw ha hb hc hd hp hq (by omega))) (.cons (.tmp rfl) (.cons (.tmp rfl) (.cons (.tmp rfl) (.cons (.tmp rfl) .nil)))) (by first | exact hH0 | exact hH1 rfl | exact hH2 rfl rfl) rfl rfl) ?_
  refine gt (ac0 (Con.rekeyB 28 rfl rfl rfl rfl (ahs tw ha hb hp hq (by omega))) (.cons (.tmp rfl) (.cons (.tmp rfl) (.cons (.tmp rfl) .nil))) rfl rfl rfl) ?_
  refine gt (ac0 (Con.rekeyB 28 rfl rfl rfl rfl (ahs tw hc hd hp hq (by omega))) (.cons (.tmp rfl) (.cons (.tmp rfl) (.cons (.tmp rfl) .nil))) rfl rfl rfl) ?_
  refine gt (ac0 (Con.rekeyB 28 rfl rfl rfl rfl hD) (.cons (.tmp rfl) (.cons (.tmp rfl) (.cons (.tmp rfl) .nil))) rfl rfl rfl) ?_
  refine gt (ac0 (Con.rekeyB 28 rfl rfl rfl rfl (arh _ _)) (.cons (.tmp rfl) (.cons (.tmp rfl) .nil)) rfl rfl rfl) ?_
  refine gD ?_
  refine gC (fun ht50=>?_) (fun ht50=>?_) (st1:=(8,0))
  ·cases ht50
  ·refine gc (aql tw ho (by omega)) ?_
   refine gC (fun ht59=>?_) (fun ht59=>?_) (st1:=(11,0))
   ·cases ht59
   ·refine gc (aql tw hN (by omega)) ?_
    refine gE2 ?_
    rw [aby,aby]; exact congrArg (fun z=>AV.tup [bl z,.v .nilIface]) (bcr _ _)
end Go.Lw
namespace Go.Lw
open Go.Proofs
theorem bsg {α:Type} {x:α} {i:Nat} (h:i = 0):[x][i]? = some x:=by subst h; rfl
theorem a3y {l:Li} {a:As} (hg:Good l a) (hs:splitE l = 0) {k:Nat} (hk:k < (splitG l).length) :
  FnC prog 45 [l.av,i64 k,a.av] (nA (a0d l a (gAt l k))):=by
 obtain ⟨n,g,ok⟩:=a50 (avx hg hs hk true)
 have hn:(k:Int) = n:=ok.hk
 have e:gAt l k = g:=aaf (by have:=ok.hg; rw [show (k:Int).toNat = n by omega]; exact this)
 have h:=a6a (bbe hg.lo hg.al ok) ok
 rw [<- hn] at h
 rw [e]; exact h
theorem ayh {l:Li} {a:As} (hg:Good l a) (hs:splitE l = 0) {k:Nat} (hk:k < (splitG l).length) :
  FnC prog 44 [ae5 a.rs,nA (a0d l a (gAt l k))] (i64 (bd8 l a k)):=by
 obtain ⟨tw,hta,h5,hll⟩:=hg.tw
 obtain ⟨e,hn,he⟩:=a9m hg hs hk
 have hlm:=aea (llq a.rs).length
 rw [hta]
 exact amz tw hn (by omega)
theorem a31 (l:Li) (hl:l.ok) (xs:List Tn) (hx:∀ x ∈ xs, x.t.ok /\ Qb 1000 x.t.q) (hxl:xs.length <= 281474976710656) (a:As) (ha:AL a) :
  FnC prog 12 [l.av,.lst 4 (xs.map Tn.av),.lst 3 [a.av]] (i64 (acE l xs a)):=by
 refine gF0 func12 ?_
 refine gc (alf l hl) ?_
 refine gC (fun ht16=>?_) (fun ht16=>?_)
 ·have h1:=af6 ht16
  refine gE1 ?_
  rw [bp3 h1]
 ·have h1:=af0 ht16
  refine gc (ael l hl h1) ?_
  refine gC (fun ht24=>?_) (fun ht24=>?_)
  ·have h2:=af6 ht24
   refine gE1 ?_
   rw [bqw h1 h2]
  ·have h2:=af0 ht24
   refine gc (a75 l hl xs (fun x h9=>(hx x h9).1) hxl) ?_
   refine gC (fun ht30=>?_) (fun ht30=>?_)
   ·have h3:=af6 ht30
    refine gE1 ?_
    rw [bpg h1 h2 h3]
   ·have h3:=af0 ht30
    refine ge rfl ?_
    refine gL1 [1,3,32,33] [3] (fun (i:Nat)=>[(34,some (i64 i))]) (fun _=>[]) (fun i=>i <= 1 /\ (0 < i -> (flt l xs a).1 = 0)) (fun i=>1 - i) 0 ⟨zero_le _,fun h=>absurd h (by omega)⟩ ?_
    rintro i ⟨hi,hj⟩ K1 hK1
    refine gC (fun ht35=>?_) (fun ht35=>?_)
    ·have hin:i < 1:=abd (b:=1) ht35
     have hi0:i = 0:=by omega
     obtain ⟨_,hb1,hb2⟩:=bii h3
     refine gi (bsg hi0) ?_
     refine gc (ax8 hl h1 xs (fun x h9=>⟨(hx x h9).1,hb2 x h9,(hx x h9).2⟩) hb1 ha) ?_
     refine gs (bbs (o:=0) (.tmp rfl) rfl (by kernel_rfl) rfl) ?_
     refine gC (fun ht43=>?_) (fun ht43=>?_)
     ·have h4:(flt l xs a).1 ≠ 0:=af6 ht43
      refine gE1 ?_
      rw [bpd h1 h2 h3 h4]; rfl
     ·have h4:(flt l xs a).1 = 0:=af0 ht43
      refine ga aat ?_
      exact gK1 hK1 (i + 1) ⟨hin,fun _=>h4⟩
    ·have h4 : (flt l xs a).1 = 0 := hj (by have := aaj (b := 1) hi ht35; omega)
     refine gE1 ?_
     rw [bsd h1 h2 h3 h4]; rfl
end Go.Lw
namespace Go.Lw
open Go.Proofs
section
variable {ts:List (List Rat)}
theorem bil {r:Nat} (tw:Tw ts r):Sg (Et ts) (sg (aan ts) ts.length):=bgw (aan ts) ts.length tw.pos
def Zq (x y:Et ts):Prop:=sg (aan ts) ts.length (x - y) = 0
theorem auh {r:Nat} (tw:Tw ts r) (x:Et ts):Zq x x:=by
 unfold Zq
 rw [show x - x = 0 by grind]
 exact (bil tw).zero
theorem a2g {x y:Et ts} (h:eqT ts x y = true):Zq x y:=by
 have h2:T.sgn (aan ts) ts.length (subT ts x y) = 0:=of_decide_eq_true h
 exact h2
theorem as2 (x:Et ts):dec ts.length (sX x) = x:=aby _ _
theorem ba9 {r:Nat} (tw:Tw ts r) {x y u v p q:Et ts} (h1:Zq x y) (h2:Zq u v):sg (aan ts) ts.length ((x - y) * p + (u - v) * q) = 0:=by
 have h:=bil tw
 have e1:sg (aan ts) ts.length ((x - y) * p) = 0:=by rw [h.mul,h1]; exact Int.zero_mul _
 rw [h.zadd e1,h.mul,h2]
 exact Int.zero_mul _
theorem Zq.sub {r:Nat} (tw:Tw ts r) {x y u v:Et ts} (h1:Zq x y) (h2:Zq u v):Zq (x - u) (y - v):=by
 unfold Zq
 rw [show x - u - (y - v) = (x - y) * 1 + (u - v) * (-1) by grind]
 exact ba9 tw h1 h2
theorem Zq.add {r:Nat} (tw:Tw ts r) {x y u v:Et ts} (h1:Zq x y) (h2:Zq u v):Zq (x + u) (y + v):=by
 unfold Zq
 rw [show x + u - (y + v) = (x - y) * 1 + (u - v) * 1 by grind]
 exact ba9 tw h1 h2
theorem Zq.mul {r:Nat} (tw:Tw ts r) {x y u v:Et ts} (h1:Zq x y) (h2:Zq u v):Zq (x * u) (y * v):=by
 unfold Zq
 rw [show x * u - y * v = (x - y) * u + (u - v) * y by grind]
 exact ba9 tw h1 h2
theorem be0 {r:Nat} (tw:Tw ts r) {x y:Et ts} (h:Zq x y):T.sgn (aan ts) ts.length x = T.sgn (aan ts) ts.length y:=(bil tw).sub0 h
theorem a8t {r:Nat} (tw:Tw ts r) {a b c d p q a2 b2 c2 d2 p2 q2:Et ts} (ha:Zq a a2) (hb:Zq b b2) (hc:Zq c c2) (hd:Zq d d2) (hp:Zq p p2) (hq:Zq q q2) :
  bbh ts a b c d p q = bbh ts a2 b2 c2 d2 p2 q2:=by
 have e1:T.sgn (aan ts) ts.length (aib ts a b c d p q) = T.sgn (aan ts) ts.length (aib ts a2 b2 c2 d2 p2 q2) :=
  be0 tw (x:=(c - a) * (q - b) - (d - b) * (p - a)) (y:=(c2 - a2) * (q2 - b2) - (d2 - b2) * (p2 - a2))
   (((hc.sub tw ha).mul tw (hq.sub tw hb)).sub tw ((hd.sub tw hb).mul tw (hp.sub tw ha)))
 have e2:T.sgn (aan ts) ts.length (bjk ts a b c d p q) = T.sgn (aan ts) ts.length (bjk ts a2 b2 c2 d2 p2 q2) :=
  be0 tw (x:=(a - p) * (c - p) + (b - q) * (d - q)) (y:=(a2 - p2) * (c2 - p2) + (b2 - q2) * (d2 - q2))
   (((ha.sub tw hp).mul tw (hc.sub tw hp)).add tw ((hb.sub tw hq).mul tw (hd.sub tw hq)))
 unfold bbh
 rw [e1,e2]
end
def jpt (l:Li) (a:As) (z:Int):Et (llq a.rs) × Et (llq a.rs):=ai4 l a (l.joints.getD z.toNat default).a (l.joints.getD z.toNat default).point
def atu (l:Li) (a:As) (zs:List Int):Bool :=
  bbh (llq a.rs) (jpt l a (zs.getD 0 0)).1 (jpt l a (zs.getD 0 0)).2 (jpt l a (zs.getD 1 0)).1 (jpt l a (zs.getD 1 0)).2 (jpt l a (zs.getD 2 0)).1 (jpt l a (zs.getD 2 0)).2
def dX (l:Li) (a:As) (zs:List Int) (i k:Nat):List Rat:=if k < i then sX (jpt l a (zs.getD k 0)).1 else []
def dY (l:Li) (a:As) (zs:List Int) (i k:Nat):List Rat:=if k < i then sX (jpt l a (zs.getD k 0)).2 else []
abbrev dC (l:Li) (a:As) (zs:List Int) (i:Nat):List AV:=[nA (dX l a zs i 0),nA (dY l a zs i 0),nA (dX l a zs i 1),nA (dY l a zs i 1),nA (dX l a zs i 2),nA (dY l a zs i 2)]
theorem bkh {l:Li} {a:As} {zs:List Int} {i:Nat} {z:Int} (hi:i < 3) (hz:zs[i]? = some z) :
  over (dC l a zs i) (0 + ((i:Nat):Int).toNat * 2) (AV.cells (eN (jpt l a z))) = dC l a zs (i + 1):=by
 have e:zs.getD i 0 = z:=aaf hz
 subst e
 have h:i = 0 \/ i = 1 \/ i = 2:=by omega
 rcases h with rfl | rfl | rfl <;> rfl
theorem bhf {l:Li} {a:As} {zs:List Int} {i:Nat} (hi:i < 3):Nat.ble (0 + ((i:Nat):Int).toNat * 2 + 2) (dC l a zs i).length = true:=by
 rw [Nat.ble_eq]
 show 0 + ((i:Nat):Int).toNat * 2 + 2 <= 6
 omega
theorem ba5 {l:Li} {a:As} (hg:Good l a) {z:Int} (h:0 <= z /\ z < l.joints.length) :
  Nm (llq a.rs).length 1162056 (sX (jpt l a z).1) /\ Nm (llq a.rs).length 1162056 (sX (jpt l a z).2):=by
 obtain ⟨j,hj⟩:=abt (l:=l.joints) (i:=z.toNat) (by omega)
 obtain ⟨i1,i2,i3,i4,_⟩:=aet hg.li hj
 obtain ⟨n,k,bd,m,b,hp⟩:=hg.at i1 i3
 obtain ⟨tw,hta,h5,hll⟩:=hg.tw
 obtain ⟨hba,hbo⟩:=hg.pl hp.gb
 have kb:=kb4 tw.three
 have h9:=bd7 tw hbo hp.qx hp.qy
 unfold jpt
 rw [aaf hj,hp.eq]
 exact ⟨h9.1.mono (by omega),h9.2.mono (by omega)⟩
theorem axq {l:Li} {a:As} (hg:Good l a) {x y z:Et (llq a.rs) × Et (llq a.rs)} (h1:Nm (llq a.rs).length 1162056 (sX x.1) /\ Nm (llq a.rs).length 1162056 (sX x.2))
  (h2:Nm (llq a.rs).length 1162056 (sX y.1) /\ Nm (llq a.rs).length 1162056 (sX y.2)) (h3:Nm (llq a.rs).length 1162056 (sX z.1) /\ Nm (llq a.rs).length 1162056 (sX z.2)) :
  FnC prog 113 [ae5 a.rs,eN x,eN y,eN z] (.tup [bl (bbh (llq a.rs) x.1 x.2 y.1 y.2 z.1 z.2),.v .nilIface]) /\
  FnC prog 54 [ae5 a.rs,eN x,eN y,eN z] (bl (bbh (llq a.rs) x.1 x.2 y.1 y.2 z.1 z.2)):=by
 obtain ⟨tw,hta,h5,hll⟩:=hg.tw
 have kb:=kb4 tw.three
 have hlm:=aea (llq a.rs).length
 have c1:=ap4 tw h1.1 h1.2 h2.1 h2.2 h3.1 h3.2 (by omega)
 have c2:=ate tw h1.1 h1.2 h2.1 h2.2 h3.1 h3.2 (by omega)
 rw [as2,as2,as2,as2,as2,as2] at c1 c2
 rw [hta]
 exact ⟨c1,c2⟩
theorem ayu {l:Li} {a:As} (hg:Good l a) {g:Gr} (hgo:GrOk l g) (h3:g.joints.length = 3) :
  FnC prog 50 [l.av,a.av,g.av] (.tup [i64 (if atu l a g.joints = true then 1 else 2),.v .nilIface]):=by
 have hlj:=hg.lo.lj
 obtain ⟨z0,hz0⟩:=abt (l:=g.joints) (i:=0) (by omega)
 obtain ⟨z1,hz1⟩:=abt (l:=g.joints) (i:=1) (by omega)
 obtain ⟨z2,hz2⟩:=abt (l:=g.joints) (i:=2) (by omega)
 have e0:g.joints.getD 0 0 = z0:=aaf hz0
 have e1:g.joints.getD 1 0 = z1:=aaf hz1
 have e2:g.joints.getD 2 0 = z2:=aaf hz2
 have hb:=(axq hg (ba5 hg (hgo.j z0 (mem_of_getElem? hz0))) (ba5 hg (hgo.j z1 (mem_of_getElem? hz1))) (ba5 hg (hgo.j z2 (mem_of_getElem? hz2)))).1
 have hd:atu l a g.joints = bbh (llq a.rs) (jpt l a z0).1 (jpt l a z0).2 (jpt l a z1).1 (jpt l a z1).2 (jpt l a z2).1 (jpt l a z2).2:=by unfold atu; rw [e0,e1,e2]
 rw [<- hd] at hb
 refine gF0 func50 ?_
 refine gl ?_
 refine gL1 [3,4,8,17,18] [3,4] (fun (i:Nat)=>[(19,some (i64 i))]) (fun i=>[(8,some (.box (dC l a g.joints i)))]) (fun i=>i <= g.joints.length) (fun i=>g.joints.length - i) 0 (zero_le _) ?_ (h2:=(.cons rfl (BlkSub.boxL (.cons (Sub.nil _ _ _) (.cons (Sub.nil _ _ _) (.cons (Sub.nil _ _ _) (.cons (Sub.nil _ _ _) (.cons (Sub.nil _ _ _) (.cons (Sub.nil _ _ _) .nil)))))) rfl) .nil))
 rintro i hi K1 hK1
 refine gC (fun ht20=>?_) (fun ht20=>?_) (st2:=(11,0))
 ·have hin:i < g.joints.length:=abd ht20
  obtain ⟨z,hz⟩:=abt hin
  have hzj:=hgo.j z (mem_of_getElem? hz)
  obtain ⟨j,hj⟩:=abt (l:=l.joints) (i:=z.toNat) (by omega)
  obtain ⟨i1,i2,i3,i4,_⟩:=aet hg.li hj
  have hpl:=avw hg i1 i3
  have ej:ai4 l a j.a j.point = jpt l a z:=by unfold jpt; rw [aaf hj]
  rw [ej] at hpl
  have hpl2:FnC prog 112 [l.av,a.av,i64 j.a,i64 j.point] (.tup [eN (jpt l a z),.v .nilIface]):=hpl
  refine gi (aae hz) ?_
  refine gi (adl (n:=z.toNat) (by omega) hj) ?_
  refine gc hpl2 ?_
  refine gC (fun ht40=>?_) (fun ht40=>?_) (st1:=(8,0))
  ·cases ht40
  ·refine gs ((apc (.tmp rfl) (.tmp rfl) T193 rfl T112 rfl (by omega) (by omega) rfl)) ?_ (9, 4)
   refine gs ((a92 (.tmp rfl) rfl (.tmp rfl) rfl T112 rfl (bhf (by omega)))) ?_
   refine ga aat ?_
   exact gK1 hK1 (i + 1) hin (hw:=Wk.of ab0 (.cons rfl (BlkSub.of (congrArg Blk.box (bkh (by omega) hz))) (.cons rfl (.refl _) (.cons rfl (.refl _) .nil))))
 ·have hin:=aaj hi ht20
  have hi3:i = 3:=by omega
  subst hi3
  refine gW (Wk.of (sl:=[(4,some (.ptr 4 0)),(8,some (.ptr 8 0))]) (hp:=[(4,some (.box a.av.cells)),(8,some (.box [nA (sX (jpt l a z0).1),nA (sX (jpt l a z0).2),nA (sX (jpt l a z1).1),nA (sX (jpt l a z1).2),nA (sX (jpt l a z2).1),nA (sX (jpt l a z2).2)]))]) ab0 (.cons rfl (.refl _) (.cons rfl (BlkSub.of (by rw [<- e0,<- e1,<- e2]; rfl)) .nil))) ?_
  refine gs (apc (.tmp rfl) (.const _) T193 rfl T112 rfl (by omega) (by omega) rfl) ?_
  refine gs (apc (.tmp rfl) (.const _) T193 rfl T112 rfl (by omega) (by omega) rfl) ?_
  refine gs (apc (.tmp rfl) (.const _) T193 rfl T112 rfl (by omega) (by omega) rfl) ?_
  refine gc hb ?_
  refine gC (fun ht59=>?_) (fun ht59=>?_) (st1:=(13,0))
  ·cases ht59
  ·refine gC (fun ht61=>?_) (fun ht61=>?_)
   ·have hd1:atu l a g.joints = true:=ht61
    refine gE2 ?_
    rw [if_pos hd1]; rfl
   ·have hd1:atu l a g.joints = false:=ht61
    refine gE2 ?_
    rw [if_neg (by rw [hd1]; decide)]; rfl
def bix (l:Li) (a:As) (k:Nat):Int:=if bd8 l a k ≠ 0 then 0 else if (gAt l k).kind = 1 then (if atu l a (gAt l k).joints = true then 1 else 2) else 3
theorem bfc {k:Int} {n:Nat} (h:cond (aaa .lss k 0) true (aaa .geq k n) = true):¬ (0 <= k /\ k < n):=by
 cases h1:aaa .lss k 0
 ·rw [h1] at h; have:=of_decide_eq_true h; omega
 ·have:=of_decide_eq_true h1; omega
theorem bf0 {k:Int} {n:Nat} (h:cond (aaa .lss k 0) true (aaa .geq k n) = false):0 <= k /\ k < n:=by
 cases h1:aaa .lss k 0
 ·rw [h1] at h; have:=of_decide_eq_false h; have:=of_decide_eq_false h1; omega
 ·rw [h1] at h; cases h
theorem a1f {l:Li} {a:As} {kk:Int} {own:Bool} {n:Nat} {g:Gr} (h:DyOk l kk a own n g) (hk:g.kind = 1) :
  ∃ i k z0 z1 z2 j0 j1 j2,RrrP l a g i k z0 z1 z2 j0 j1 j2 /\ j0.kind = 0 /\ j1.kind = 0 /\ j2.kind = 0:=by
 obtain ⟨i,k,z0,z1,z2,j0,j1,j2,P⟩:=h.rrr hk
 have hd:=h.dy
 refine ⟨i,k,z0,z1,z2,j0,j1,j2,P,?_⟩
 have e:=P.eq
 subst e
 cases hd with
 | rrr ne t0 t1 h0 h2 kd tie =>
  have a0:=t0.hj.symm.trans P.h0
  have a1:=t1.hj.symm.trans P.h1
  have a2:=h2.symm.trans P.h2
  cases a0; cases a1; cases a2
  exact ⟨t0.kd,t1.kd,kd⟩
theorem azj (l:Li) (hl:l.ok) (xs:List Tn) (hx:∀ x ∈ xs, x.t.ok /\ Qb 1000 x.t.q) (hxl:xs.length <= 281474976710656) (a:As) (ha:AL a) (k:Int) :
  FnC prog 20 [l.av,.lst 4 (xs.map Tn.av),a.av,i64 k] (.tup [i64 (if acE l xs a = 0 /\ (0 <= k /\ k < (splitG l).length) then bix l a k.toNat else 0),ah7 (if acE l xs a ≠ 0 then acE l xs a else if 0 <= k /\ k < (splitG l).length then 0 else 9)]):=by
 refine gF0 func20 ?_
 refine gc (awu l hl xs hx hxl a ha) ?_
 refine gC (fun ht22=>?_) (fun ht22=>?_)
 ·have h1:=ac5 ht22
  refine gE2 ?_
  rw [if_neg (fun h=>h1 h.1),if_pos h1]; rfl
 ·have h1:=ac7 ht22
  obtain ⟨h2,h3,h4,h5⟩:=br8 h1
  have hg:=a10 hl h2 ha h5
  have hgl:=blp h2
  rw [if_pos h1]
  refine glG ?_
  refine gC (fun ht31=>?_) (fun ht31=>?_)
  ·have h6:¬ (0 <= k /\ k < (splitG l).length):=bfc ht31
   refine gE2 ?_
   rw [if_neg (fun h=>h6 h.2),if_neg (by omega),if_neg h6]; rfl
  ·have h6:0 <= k /\ k < (splitG l).length:=bf0 ht31
   obtain ⟨n,rfl⟩:∃ n:Nat,k = n:=⟨k.toNat,by omega⟩
   have hin:n < (splitG l).length:=by omega
   obtain ⟨g,hgi⟩:=abt hin
   have ega:gAt l n = g:=aaf hgi
   have ekn:bix l a n = if bd8 l a n ≠ 0 then 0 else if g.kind = 1 then (if atu l a g.joints = true then 1 else 2) else 3:=by unfold bix; rw [ega]
   rw [if_pos ⟨h1,h6⟩,if_neg (by omega),if_pos h6,toNat_natCast,ekn]
   refine gc (a5g hg h3 hin) ?_
   refine gC (fun ht41=>?_) (fun ht41=>?_) (st1:=(8,0))
   ·cases ht41
   ·refine gc (a28 hg h3 hin) ?_
    refine gC (fun ht50=>?_) (fun ht50=>?_) (st1:=(11,0))
    ·cases ht50
    ·refine gC (fun ht54=>?_) (fun ht54=>?_)
     ·have h7:bd8 l a n ≠ 0:=ajb ht54
      refine gE2 ?_
      rw [if_pos h7]; rfl
     ·have h7:bd8 l a n = 0:=ams ht54
      rw [if_neg (by omega)]
      refine gi (aae hgi) ?_
      refine gC (fun ht57=>?_) (fun ht57=>?_)
      ·have h8:g.kind = 1:=aes ht57
       obtain ⟨n2,g2,ok⟩:=a50 (avx hg h3 hin true)
       have hn2:n = n2:=by have:=ok.hk; omega
       have eg2:g2 = g:=by have:=ok.hg; rw [<- hn2,hgi] at this; cases this; rfl
       subst hn2
       subst eg2
       obtain ⟨i,k2,z0,z1,z2,j0,j1,j2,P,_⟩:=a1f ok h8
       have hj3:g2.joints.length = 3:=by rw [P.eq]; rfl
       refine gi (aae hgi) ?_
       refine gc (ayu hg ok.ok hj3) ?_
       refine gD ?_
       refine gE2 ?_
       rw [if_pos h8]; rfl
      ·have h8:g.kind ≠ 1:=afr ht57
       refine gE2 ?_
       rw [if_neg h8]; rfl
theorem bfu {l:Li} {xs:List Tn} {a:As} (h:(flt l xs a).1 = 0) {z:Nat} {j:Jt} (hj:l.joints[z]? = some j) (hk:j.kind = 0) :
  eqT (llq a.rs) (ai4 l a j.a j.point).1 (ai4 l a j.b j.on).1 = true /\ eqT (llq a.rs) (ai4 l a j.a j.point).2 (ai4 l a j.b j.on).2 = true:=by
 unfold flt at h
 split at h
 ·cases h
 ·split at h
  ·cases h
  ·split at h
   ·cases h
   ·rename_i h3
    have h9:=ak9 h3 z (List.getElem?_eq_some_iff.1 hj).1
    rw [aaf hj] at h9
    unfold ag2 at h9
    rw [if_pos hk,and_eq_true] at h9
    exact h9
theorem a7d {l:Li} {xs:List Tn} {a:As} (hg:Good l a) (h:(flt l xs a).1 = 0) {z:Int} {j:Jt} (hj:l.joints[z.toNat]? = some j) (hk:j.kind = 0) (b:Int) :
  Zq (jpt l a z).1 (ad5 l a j b).1 /\ Zq (jpt l a z).2 (ad5 l a j b).2:=by
 obtain ⟨tw,hta,h5,hll⟩:=hg.tw
 have h9:=bfu h hj hk
 have ej:jpt l a z = ai4 l a j.a j.point:=by unfold jpt; rw [aaf hj]
 rw [ej]
 by_cases e:j.a = b
 ·have e2:ad5 l a j b = ai4 l a j.b j.on:=if_pos e
  rw [e2]
  exact ⟨a2g h9.1,a2g h9.2⟩
 ·have e2:ad5 l a j b = ai4 l a j.a j.point:=if_neg e
  rw [e2]
  exact ⟨auh tw _,auh tw _⟩
theorem bhe {l:Li} {xs:List Tn} {a:As} (hg:Good l a) (h:(flt l xs a).1 = 0) {z:Int} {j:Jt} (hj:l.joints[z.toNat]? = some j) (hk:j.kind = 0) {b:Int} (hb:j.a = b \/ j.b = b) :
  Zq (jpt l a z).1 (aoE a b (afj l j b)).1 /\ Zq (jpt l a z).2 (aoE a b (afj l j b)).2:=by
 obtain ⟨tw,hta,h5,hll⟩:=hg.tw
 have h9:=bfu h hj hk
 have ej:jpt l a z = ai4 l a j.a j.point:=by unfold jpt; rw [aaf hj]
 rw [ej]
 by_cases e:j.a = b
 ·have e2:afj l j b = mkQ l b j.point:=if_pos e
  subst e
  rw [e2]
  exact ⟨auh tw _,auh tw _⟩
 ·have e2:afj l j b = mkQ l b j.on:=if_neg e
  rcases hb with e3 | e3
  ·exact absurd e3 e
  ·subst e3
   rw [e2]
   exact ⟨a2g h9.1,a2g h9.2⟩
theorem bbz {l:Li} {xs:List Tn} {a:As} (hg:Good l a) (h:(flt l xs a).1 = 0) {g:Gr} {i k z0 z1 z2:Int} {j0 j1 j2:Jt} (P:RrrP l a g i k z0 z1 z2 j0 j1 j2) (k0:j0.kind = 0) (k1:j1.kind = 0) (k2:j2.kind = 0) :
  atu l a g.joints = bbh (llq a.rs) (ad5 l a j0 i).1 (ad5 l a j0 i).2 (ad5 l a j1 k).1 (ad5 l a j1 k).2 (aoE a i (afj l j2 i)).1 (aoE a i (afj l j2 i)).2:=by
 obtain ⟨tw,hta,h5,hll⟩:=hg.tw
 obtain ⟨a1,a2⟩:=a7d hg h P.h0 k0 i
 obtain ⟨b1,b2⟩:=a7d hg h P.h1 k1 k
 obtain ⟨c1,c2⟩:=bhe hg h P.h2 k2 P.t1
 rw [P.eq]
 exact a8t tw a1 a2 b1 b2 c1 c2
theorem a1r {l:Li} {a:As} (hg:Good l a) {b pt:Int} (h1:inB b l.bodies.length = true) (h2:inB pt (adz l b).length = true) :
  Nm (llq a.rs).length 1162056 (sX (plE l a b pt).1) /\ Nm (llq a.rs).length 1162056 (sX (plE l a b pt).2):=by
 obtain ⟨n,k,bd,m,p,hp⟩:=hg.at h1 h2
 obtain ⟨tw,hta,h5,hll⟩:=hg.tw
 obtain ⟨hba,hbo⟩:=hg.pl hp.gb
 have kb:=kb4 tw.three
 have h9:=bd7 tw hbo hp.qx hp.qy
 unfold plE
 rw [hp.eq]
 exact ⟨h9.1.mono (by omega),h9.2.mono (by omega)⟩
theorem a89 {l:Li} {a:As} (hg:Good l a) {z:Nat} {j:Jt} (hj:l.joints[z]? = some j) (b:Int) :
  Nm (llq a.rs).length 1162056 (sX (ad5 l a j b).1) /\ Nm (llq a.rs).length 1162056 (sX (ad5 l a j b).2):=by
 obtain ⟨i1,i2,i3,i4,_⟩:=aet hg.li hj
 by_cases e:j.a = b
 ·have e2:ad5 l a j b = plE l a j.b j.on:=if_pos e
  rw [e2]; exact a1r hg i2 i4
 ·have e2:ad5 l a j b = plE l a j.a j.point:=if_neg e
  rw [e2]; exact a1r hg i1 i3
theorem bhh {l:Li} {a:As} (hg:Good l a) {z:Nat} {j:Jt} (hj:l.joints[z]? = some j) {b:Int} (hb:j.a = b \/ j.b = b) :
  Nm (llq a.rs).length 1162056 (sX (aoE a b (afj l j b)).1) /\ Nm (llq a.rs).length 1162056 (sX (aoE a b (afj l j b)).2):=by
 obtain ⟨i1,i2,i3,i4,_⟩:=aet hg.li hj
 by_cases e:j.a = b
 ·have e2:afj l j b = mkQ l b j.point:=if_pos e
  subst e
  rw [e2]; exact a1r hg i1 i3
 ·have e2:afj l j b = mkQ l b j.on:=if_neg e
  rcases hb with e3 | e3
  ·exact absurd e3 e
  ·subst e3
   rw [e2]; exact a1r hg i2 i4
theorem bjx {l:Li} {a:As} (D:DyR l a) {b:Int} {p:Pl} (hp:a.bs[b.toNat]? = some p) (hn:aaz a.rs p.l = 0) {q:Rat × Rat} (hq:Sm 1000 q) :
  ∃ u v,FnC prog 53 [ae5 a.rs,nR p.c,nR p.s,qN q] (ptA u v) /\ FnC prog 52 [ae5 a.rs,ptA u v,.agg [nR p.x,nR p.y]] (eN (aoE a b q)):=by
 obtain ⟨tw,hta⟩:=ab3 D.al.tr D.hc
 have h5:a.rs.length <= 5:=by have:=tw.five; rwa [ahe] at this
 have h9:=ag4 hn (D.al.nr p (mem_of_getElem? hp)) h5
 have kb:=kb4 tw.three
 have hlm:=aea (llq a.rs).length
 obtain ⟨e1,ok⟩:=h9
 rw [<- ahe a.rs] at ok
 have nx:=Nm.ofQ ok.c.five (Cb.one (hq.x.mono (f:=4000) (by omega)))
 have ny:=Nm.ofQ ok.c.five (Cb.one (hq.y.mono (f:=4000) (by omega)))
 have nX:=ajz tw ok.c ok.s nx ny
 have nY:=aj3 tw ok.c ok.s nx ny
 obtain ⟨K,hK⟩:∃ K,kB 40000 (llq a.rs).length = K:=⟨_,rfl⟩
 rw [hK] at nX nY kb
 have hadd:=apq (e:=2 * (4000 + 4000 + K) + 1) tw nX nY (ok.x.mono (by omega)) (ok.y.mono (by omega)) (by omega)
 have htn:=anu tw ok.c ok.s nx ny (by rw [hK]; omega)
 rw [ast,as4] at hadd
 rw [<- hta] at hadd htn
 have e2:p.av = .agg [nR p.c,nR p.s,nR p.x,nR p.y]:=rfl
 have e3:[nR p.c,nR p.s,nR p.x,nR p.y] = [nA (lq p.c),nA (lq p.s),nA (lq p.x),nA (lq p.y)]:=AV.agg.inj (e2.symm.trans e1)
 injection e3 with e4 e5
 injection e5 with e5 e6
 injection e6 with e6 e7
 injection e7 with e7
 unfold aoE
 rw [aaf hp,e4,e5,e6,e7]
 exact ⟨_,_,htn,hadd⟩
theorem a4s {l:Li} {xs:List Tn} {a:As} (hg:Good l a) (h3:splitE l = 0) (hfl:(flt l xs a).1 = 0) (k:Int) :
  FnC prog 21 [l.av,a.av,i64 k] (.tup [i64 (if 0 <= k /\ k < (splitG l).length then bix l a k.toNat else 0),i64 (if 0 <= k /\ k < (splitG l).length then 0 else 9)]):=by
 have hgl:=blp hg.li
 have hbl:=hg.al.bl
 refine gF0 func21 ?_
 refine gc (ael l hg.lo hg.li) ?_
 refine glG ?_
 refine gC (fun ht25=>?_) (fun ht25=>?_)
 ·have h6:¬ (0 <= k /\ k < (splitG l).length):=bfc ht25
  refine gE2 ?_
  rw [if_neg h6,if_neg h6]; rfl
 ·have h6:0 <= k /\ k < (splitG l).length:=bf0 ht25
  obtain ⟨n,rfl⟩:∃ n:Nat,k = n:=⟨k.toNat,by omega⟩
  have hin:n < (splitG l).length:=by omega
  obtain ⟨g,hgi⟩:=abt hin
  have ega:gAt l n = g:=aaf hgi
  have ekn:bix l a n = if bd8 l a n ≠ 0 then 0 else if g.kind = 1 then (if atu l a g.joints = true then 1 else 2) else 3:=by unfold bix; rw [ega]
  rw [if_pos h6,if_pos h6,toNat_natCast,ekn]
  refine gc (a3y hg h3 hin) ?_
  refine gc (ayh hg h3 hin) ?_
  refine gD ?_
  refine gC (fun ht33=>?_) (fun ht33=>?_)
  ·have h7:bd8 l a n ≠ 0:=ajb ht33
   refine gE2 ?_
   rw [if_pos h7]; rfl
  ·have h7:bd8 l a n = 0:=ams ht33
   rw [if_neg (by omega)]
   refine gi (aae hgi) ?_
   refine gC (fun ht39=>?_) (fun ht39=>?_)
   ·have h8:g.kind ≠ 1:=ajb ht39
    refine gE2 ?_
    rw [if_neg h8]; rfl
   ·have h8:g.kind = 1:=ams ht39
    rw [if_pos h8]
    obtain ⟨n2,g2,ok⟩:=a50 (avx hg h3 hin true)
    have hn2:n = n2:=by have:=ok.hk; omega
    have eg2:g2 = g:=by have:=ok.hg; rw [<- hn2,hgi] at this; cases this; rfl
    subst hn2
    subst eg2
    have D:=bbe hg.lo hg.al ok
    obtain ⟨i,k2,z0,z1,z2,j0,j1,j2,P,u0,u1,u2⟩:=a1f ok h8
    rw [bbz hg hfl P u0 u1 u2]
    have hbt:=(axq hg (a89 hg P.h0 i) (a89 hg P.h1 k2) (bhh hg P.h2 P.t1)).2
    have eg:=P.eq
    subst eg
    obtain ⟨p,hp,hn⟩:=ok.own (b:=i) (by simp)
    have hi0:=(ok.ok.b i (by simp)).1
    have hil:=(List.getElem?_eq_some_iff.1 hp).1
    obtain ⟨u,v,hpt,hpa⟩:=bjx D hp hn (ai8 D.hl D.li P.h2 P.t1)
    refine gc (asl D ok.hg ok.ok P ok.ne) ?_
    refine gi (adl (n:=i.toNat) (by omega) hp) ?_
    refine gc hpt ?_
    refine gc hpa ?_
    refine gD ?_
    refine gc hbt ?_
    refine gC (fun ht74=>?_) (fun ht74=>?_)
    ·refine gE2 ?_
     rw [if_pos ht74]; rfl
    ·refine gE2 ?_
     rw [if_neg (by rw [ht74]; decide)]; rfl
end Go.Lw
namespace Go.Lw
open Go.Proofs
def bkq (a:As):Bool:=a.bs.all (fun b=>aki a.rs b.l) && (decide (a.bs.length <= 20) && (aki a.rs [] && decide (a.rs.length <= 2)))
theorem bmd {a:As} (h:bkq a = true) (ha:a.ok):AL a:=by
 refine (brp (r:=[]) ?_ ha (fun x hx=>by cases hx)).al
 unfold bkq at h
 unfold vlB
 simp only [and_eq_true,decide_eq_true_eq] at h
 obtain ⟨h1,h2,h3,h4⟩:=h
 rw [h1,h3,decide_eq_true (show a.bs.length <= 20 /\ ([]:List Vr).length <= 20 from ⟨h2,by show 0 <= 20; omega⟩),decide_eq_true (Or.inl h4)]
 rfl
theorem bjy {a:As} (h:a.bs.all (fun b=>aki a.rs b.l) = true) :
  cond (cond (aaa .leq (a.bs.length:Int) 20) (aki a.rs []) false) (aaa .leq (a.rs.length:Int) 2) false = bkq a:=by
 have e1:=a7k (n:=a.bs.length) (k:=20)
 have e2:=a7k (n:=a.rs.length) (k:=2)
 unfold bkq
 rw [h,Bool.true_and]
 rw [show aaa .leq (a.bs.length:Int) 20 = decide (a.bs.length <= 20) from e1,show aaa .leq (a.rs.length:Int) 2 = decide (a.rs.length <= 2) from e2]
 cases aki a.rs [] <;> by_cases c1:a.bs.length <= 20 <;> by_cases c3:a.rs.length <= 2 <;> simp [c1,c3]
theorem az8 (a:As) (ha:a.ok):FnC prog 19 [a.av] (bl (bkq a)):=by
 have hbl:=ha.bl
 refine gF0 func19 ?_
 refine gl ?_
 refine gL1 [1,6,7] [1] (fun (i:Nat)=>[(8,some (i64 i))]) (fun _=>[]) (fun i=>i <= a.bs.length /\ (a.bs.take i).all (fun b=>aki a.rs b.l) = true) (fun i=>a.bs.length - i) 0 ⟨zero_le _,rfl⟩ ?_
 rintro i ⟨hi,hj⟩ K1 hK1
 refine gC (fun ht9=>?_) (fun ht9=>?_)
 ·have hin:=abd ht9
  obtain ⟨b,hb⟩:=abt hin
  have hbo:=ha.bs b (mem_of_getElem? hb)
  refine gi (aae hb) ?_
  refine gc (asx a.rs b.l ha.rs hbo ha.rl (by show 4 <= 100; omega)) ?_
  refine gC (fun ht24=>?_) (fun ht24=>?_)
  ·have h1:=adh ht24
   refine gE1 ?_
   unfold bkq; rw [adg hb h1]; rfl
  ·have h1:=adi ht24
   refine ga aat ?_
   exact gK1 hK1 (i + 1) ⟨hin,aef hj hb h1⟩
 ·have hin:=aaj hi ht9
  refine gl ?_
  refine gcG (fun _=>(Con.subA (.cons (.refl _) (.cons (Sub.nil 1 none 0) .nil)) (asx a.rs [] ha.rs bfi ha.rl (by show 0 <= 100; omega)))) ?_
  refine glG ?_
  refine gE1 ?_
  exact congrArg bl (bjy (af4 hin hj))
end Go.Lw
namespace Go.Lw
theorem a9s {l:Li} {xs:List Tn} (h:bge l xs = true):liB l = true /\ xs.length <= 20 /\ xs.all tnB = true:=by
 unfold bge at h
 simp only [and_eq_true,decide_eq_true_eq] at h
 exact ⟨h.1.1,h.1.2,h.2.1⟩
theorem bmb {x:Tn} (h:tnB x = true) (ho:x.t.wok):x.t.ok /\ Qb 1000 x.t.q:=by
 unfold tnB at h
 rw [decide_eq_true_eq] at h
 have hx:=ho.ok h.1 h.2 (by omega)
 exact ⟨hx,(Rt.qb hx (k:=1) (by omega) h.1 h.2).mono (by omega)⟩
end Go.Lw
namespace Go.Lw
open Go.Proofs
end Go.Lw
namespace Go.Lw
variable {P:Program} {N:Nat}
def rdC (s:AS):Operand -> Option AV
  | .tmp t=>match s.get t with
    | some x=>match x with
      | .opt _ _=>none
      | x=>some x
    | none=>none
  | .const c=>some (.v c)
  | .func f=>some (.v (.func (.func f) #[] #[]))
  | .global _=>none
theorem abb {s:AS} {o:Operand} {x:AV} (h:rdC s o = some x):Ev s o x:=by
 cases o with
 | tmp t =>
  simp only [rdC] at h
  split at h
  ·rename_i y hy
   split at h
   ·cases h
   ·cases h; exact .tmp hy
  ·cases h
 | const c=>cases h; exact .const c
 | func f=>cases h; exact .func f
 | global n=>cases h
def bku (s:AS):List Operand -> Option (List AV)
  | []=>some []
  | o :: os=>match rdC s o with
    | some x=>match bku s os with
      | some xs=>some (x :: xs)
      | none=>none
    | none=>none
theorem ank {s:AS}:∀ {os:List Operand} {xs:List AV}, bku s os = some xs -> EvL s os xs
 | [],xs,h=>by cases h; exact .nil
 | o :: os, xs, h=>by
  unfold bku at h
  split at h
  ·rename_i x h1
   split at h
   ·rename_i ys h2; cases h; exact .cons (abb h1) (ank h2)
   ·cases h
  ·cases h
def wN {α:Type} (n:Nat) (f:Nat -> α):α:=match n with
  | 0=>f 0
  | m + 1=>f (m + 1)
theorem avh {α:Type} (n:Nat) (f:Nat -> α):wN n f = f n:=by cases n <;> rfl
def wI {α:Type} (z:Int) (f:Int -> α):α:=match z with
  | .ofNat n=>match n with
    | 0=>f 0
    | m + 1=>f (Int.ofNat (m + 1))
  | .negSucc n=>f (.negSucc n)
theorem au0 {α:Type} (z:Int) (f:Int -> α):wI z f = f z:=by
 cases z with
 | ofNat n=>cases n <;> rfl
 | negSucc n=>rfl
structure V1 where
  x:AV
  rt:List Nat
  rd:List Nat
def bgu:Value -> Bool
  | .nilIface=>true
  | .iface _ _=>true
  | _=>false
theorem axp {v:Value} (h:bgu v = true):bi1 v:=by
 cases v <;> first | exact .inl rfl | exact .inr ⟨_,_,rfl⟩ | cases h
def bhv:BinOp -> Bool
  | .and | .or | .xor | .andNot=>true
  | _=>false
theorem bb1:∀ {op:BinOp},bhv op = true -> (match op with | .and | .or | .xor | .andNot=>true | _=>false) = true:=by intro op; cases op <;> intro h <;> first | rfl | cases h
def bkt (op:BinOp) (x y:Operand) (k k':IntKind) (a b:Int):Option V1:=match op with
  | .add | .sub | .mul=>match Nat.beq (ikn k) (ikn k') with
    | true=>wI (k.wrap (aec op a b)) fun z=>some ⟨.v (.int k z),aal x ++ aal y,[]⟩
    | false=>none
  | .quo=>match Nat.beq (ikn k) (ikn k') with
    | true=>match b with
      | .ofNat 0=>none
      | b=>wI (k.wrap (a.tdiv b)) fun z=>some ⟨.v (.int k z),aal x ++ aal y,[]⟩
    | false=>none
  | .rem=>match Nat.beq (ikn k) (ikn k') with
    | true=>match b with
      | .ofNat 0=>none
      | b=>wI (a.tmod b) fun z=>some ⟨.v (.int k z),aal x ++ aal y,[]⟩
    | false=>none
  | .shl=>match b with
    | .ofNat n=>wI (k.wrap (a * 2 ^ (min n k.bits))) fun z=>some ⟨.v (.int k z),aal x ++ aal y,[]⟩
    | .negSucc _=>none
  | .shr=>match b with
    | .ofNat n=>wI (a.fdiv (2 ^ (min n k.bits))) fun z=>some ⟨.v (.int k z),aal x ++ aal y,[]⟩
    | .negSucc _=>none
  | .eql | .neq | .lss | .leq | .gtr | .geq=>match Nat.beq (ikn k) (ikn k') with
    | true=>match aaa op a b with
      | true=>some ⟨.v (.bool true),aal x ++ aal y,[]⟩
      | false=>some ⟨.v (.bool false),aal x ++ aal y,[]⟩
    | false=>none
  | op=>match bhv op && Nat.beq (ikn k) (ikn k') with
    | true=>wI (ath op k a b) fun z=>some ⟨.v (.int k z),aal x ++ aal y,[]⟩
    | false=>none
section
variable {s:AS} {R:Array Oper} {d:Nat} {t T:TypeId} {pos:String} {after:Array Edge}
theorem bj3 {op:BinOp} {x y:Operand} {k k':IntKind} {a b:Int} {S:TypeId} {r:V1} (hx:Ev s x (.v (.int k a))) (hy:Ev s y (.v (.int k' b))) (h:bkt op x y k k' a b = some r) (hN:Nat.blt d N = true) :
  Step P N R s ⟨some d,.binOp op S x y T,t,pos,after,none⟩ ⟨some r.x,[],r.rt,r.rd⟩:=by
 have hc:∀ (op:BinOp), bbk op = true -> (match Nat.beq (ikn k) (ikn k') with
  | true=>match aaa op a b with
   | true=>some (⟨.v (.bool true),aal x ++ aal y,[]⟩:V1)
   | false=>some ⟨.v (.bool false),aal x ++ aal y,[]⟩
  | false=>none) = some r -> Step P N R s ⟨some d,.binOp op S x y T,t,pos,after,none⟩ ⟨some r.x,[],r.rt,r.rd⟩:=by
  intro op hop h'
  split at h'
  ·rename_i hk
   cases ah9 hk
   have:=bl0 (P:=P) (R:=R) (op:=op) (S:=S) (T:=T) (t:=t) (pos:=pos) (after:=after) hx hy (by cases op <;> simp_all [bbk]) hN
   split at h'
   ·rename_i hb; cases h'; rw [hb] at this; exact this
   ·rename_i hb; cases h'; rw [hb] at this; exact this
  ·cases h'
 have ha:∀ (op:BinOp), bqf op = true -> (match Nat.beq (ikn k) (ikn k') with
  | true=>wI (k.wrap (aec op a b)) fun z=>some (⟨.v (.int k z),aal x ++ aal y,[]⟩:V1)
  | false=>none) = some r -> Step P N R s ⟨some d,.binOp op S x y T,t,pos,after,none⟩ ⟨some r.x,[],r.rt,r.rd⟩:=by
  intro op hop h'
  split at h'
  ·rename_i hk
   cases ah9 hk
   rw [au0] at h'
   cases h'
   exact a7m hx hy (a7u hop) hN
  ·cases h'
 have hb:∀ (op:BinOp), (match bhv op && Nat.beq (ikn k) (ikn k') with
  | true=>wI (ath op k a b) fun z=>some (⟨.v (.int k z),aal x ++ aal y,[]⟩:V1)
  | false=>none) = some r -> Step P N R s ⟨some d,.binOp op S x y T,t,pos,after,none⟩ ⟨some r.x,[],r.rt,r.rd⟩:=by
  intro op h'
  split at h'
  ·rename_i hk
   simp only [and_eq_true] at hk
   cases ah9 hk.2
   rw [au0] at h'
   cases h'
   exact bey hx hy (bb1 hk.1) hN
  ·cases h'
 cases op with
 | add=>exact ha _ rfl h
 | sub=>exact ha _ rfl h
 | mul=>exact ha _ rfl h
 | quo =>
  simp only [bkt] at h
  split at h
  ·rename_i hk
   cases ah9 hk
   split at h
   ·cases h
   ·rename_i hb0
    rw [au0] at h; cases h
    exact blo hx hy (fun e=>hb0 (by rw [e]; rfl)) hN
  ·cases h
 | rem =>
  simp only [bkt] at h
  split at h
  ·rename_i hk
   cases ah9 hk
   split at h
   ·cases h
   ·rename_i hb0
    rw [au0] at h; cases h
    exact bo5 hx hy (fun e=>hb0 (by rw [e]; rfl)) hN
  ·cases h
 | shl =>
  simp only [bkt] at h
  split at h
  ·rename_i n
   rw [au0] at h
   obtain rfl:=Option.some.inj h
   have:=bmj (P:=P) (R:=R) (S:=S) (T:=T) (t:=t) (pos:=pos) (after:=after) hx hy (Int.natCast_nonneg n) hN
   simp only [Int.ofNat_eq_natCast,toNat_natCast] at this
   exact this
  ·cases h
 | shr =>
  simp only [bkt] at h
  split at h
  ·rename_i n
   rw [au0] at h
   obtain rfl:=Option.some.inj h
   have:=bl2 (P:=P) (R:=R) (S:=S) (T:=T) (t:=t) (pos:=pos) (after:=after) hx hy (Int.natCast_nonneg n) hN
   simp only [Int.ofNat_eq_natCast,toNat_natCast] at this
   exact this
  ·cases h
 | eql=>exact hc _ rfl h
 | neq=>exact hc _ rfl h
 | lss=>exact hc _ rfl h
 | leq=>exact hc _ rfl h
 | gtr=>exact hc _ rfl h
 | geq=>exact hc _ rfl h
 | _=>exact hb _ h
end
def neB (op:BinOp) (b:Bool):Bool:=match op with
  | .eql=>b
  | _=>!b
def brs:AV -> Option Bool
  | .v (.slice none 0 0)=>some true
  | .lst _ (_ :: _)=>some false
  | .ms _ _ _ (_ + 1)=>some false
  | _=>none
theorem a7v {S:TypeId} {w:World} {E:TypeId} (h3:(underlying S).run P w = .ok (.slice E) w) {a:Option Addr} {n c:Nat} :
  (Op.equal S (.slice a n c) (.slice none 0 0)).run P w = .ok a.isNone w:=by
 show (Op.equalIn (9999 + 1) S _ _).run P w = _
 rw [Op.equalIn]
 cases a <;> simp [h3]
theorem biu {s:AS} {R:Array Oper} {d:Nat} {x:Operand} {xv:AV} {b:Bool} {op:BinOp} {S T t E:TypeId} {ti:TI} {pos:String} {after:Array Edge} (hop:op = .eql \/ op = .neq)
  (hx:Ev s x xv) (hv:brs xv = some b) (hS:aah P S = some ti) (hk:ti.k = .slice E) (hN:Nat.blt d N = true) :
  Step P N R s ⟨some d,.binOp op S x (.const (.slice none 0 0)) T,t,pos,after,none⟩ ⟨some (.v (.bool (neB op b))),[],aal x,[]⟩ :=
 aa0 rfl rfl hN fun s' hag C m a w hr=>⟨.bool (neB op b), by
  have h:=(hx.agree hag (fun _ h=>h)).rep hr
  obtain ⟨d2,h3,h4,-,-⟩:=abn hS w
  obtain rfl:=acl (h4.trans hk)
  have h2:a.eval (.const (.slice none 0 0)) = .slice none 0 0:=rfl
  obtain ⟨ad, n, c, he, hb⟩:∃ ad n c, a.eval x = .slice ad n c /\ ad.isNone = b:=by
   generalize a.eval x = u at h
   unfold brs at hv
   split at hv
   ·cases hv; cases h; exact ⟨_,_,_,rfl,rfl⟩
   ·cases hv
    cases h with
    | lst u hb hc hl hs h1 hu hr=>exact ⟨_,_,_,rfl,rfl⟩
   ·cases hv
    cases h with
    | ms hm hc hS=>exact ⟨_,_,_,rfl,rfl⟩
   ·cases hv
  have h5:=a7v (P:=P) (a:=ad) (n:=n) (c:=c) h3
  rcases hop with rfl | rfl <;> simp [execOp,he,h2,eqGuard,binOp,h5,hb,neB],.v _⟩
theorem a3a {s:AS} {R:Array Oper} {d:Nat} {x:Operand} {lo hi:Option Operand} {T E t:TypeId} {ti te:TI} {pos:String} {after:Array Edge}
  (hx:Ev s x (.v (.slice none 0 0))) (hl:EvI s lo 0 0) (hh:EvI s hi 0 0) (hT:aah P T = some ti) (hk:ti.k = .slice E) (hE:aah P E = some te) (hN:Nat.blt d N = true) :
  Step P N R s ⟨some d,.slice T x lo hi none,t,pos,after,none⟩ ⟨some (.v (.slice none 0 0)),[],aal x ++ (rtO lo ++ rtO hi),[]⟩ :=
 aa0 rfl rfl hN fun s' hag C m a w hr=>by
  have hxv:=al1 hr (hx.agree hag (fun _ h=>List.mem_append.2 (.inl h)))
  have hl':=hl.agree hag (fun _ h=>List.mem_append.2 (.inr (List.mem_append.2 (.inl h))))
  have hh':=hh.agree hag (fun _ h=>List.mem_append.2 (.inr (List.mem_append.2 (.inr h))))
  obtain ⟨d2,hu,h3,-,-⟩:=abn hT w
  obtain rfl:=acl (h3.trans hk)
  have:=adk (P:=P) hr (cap:=0) true hl' hh' (le_refl _) (le_refl _)
  exact ⟨.slice none 0 0,by simp [execOp,hxv,Instr.sliceAt,hu,Instr.slice,this,aba hE],.v _⟩
theorem a61 {s:AS} {R:Array Oper} {d:Nat} {x:Operand} {k1 k2:IntKind} {sz:Nat} {es:List AV} {T E t:TypeId} {ti te:TI} {pos:String} {after:Array Edge}
  (hx:Ev s x (.lst sz es)) (hT:aah P T = some ti) (hk:ti.k = .slice E) (hE:aah P E = some te) (hsz:te.size = sz) (hN:Nat.blt d N = true) :
  Step P N R s ⟨some d,.slice T x none (some (.const (.int k1 0))) (some (.const (.int k2 0))),t,pos,after,none⟩ ⟨some (.ms d sz 0 0),[(d,some (.row sz []))],aal x,[]⟩:=by
 refine atn rfl ?_
 intro s' hag hnew C m a w next hC hr hnext
 have hfr:s'.Fresh d:=by
  rcases hnew d (by simp) with h | h
  ·cases h
  ·exact h
 have hxr:=(hx.agree hag (fun _ h=>h)).rep hr
 obtain ⟨d2,hu,h3,-,-⟩:=abn hT w
 obtain rfl:=acl (h3.trans hk)
 obtain ⟨ad, n, c, he⟩:∃ ad n c, a.eval x = .slice ad n c:=by
  generalize a.eval x = u at hxr
  cases hxr with
  | lst0 a cap=>exact ⟨_,_,_,rfl⟩
  | lst u hb hc hl hs h1 hu hr=>exact ⟨_,_,_,rfl⟩
 have e1:a.eval (.const (.int k1 0)) = .int k1 0:=rfl
 have e2:a.eval (.const (.int k2 0)) = .int k2 0:=rfl
 have hex:(execOp a.eval ⟨some d, .slice T x none (some (.const (.int k1 0))) (some (.const (.int k2 0))), t, pos, after, none⟩).run P w = .ok (.value (.slice ad 0 0)) w:=by
  simp [execOp,he,e1,e2,Instr.sliceAt,hu,Instr.slice,Instr.sliceBounds,Instr.sliceBound,asIntOf,aba hE]
 rw [hex]
 rw [Nat.blt_eq] at hN
 simp only [Oper.upon,Act.put]
 obtain ⟨m2,h1⟩:∃ m2,RelM C ⟨s'.sl,(d,some (.row sz [])) :: s'.hp⟩ m2 a w:=⟨_,hr.virt sz hfr⟩
 refine hnext m2 _ _ ?_
 have:=h1.put d (.slice ad 0 0) (some (.ms d sz 0 0)) (fun z hz=>by
  cases hz
  exact ⟨by have:=hr.nt; omega,.ms0 _ _ _ _⟩)
 simpa [AS.app] using this
variable [Inhabited (Tys P)]
def br2:BinOp -> Bool
  | .eql | .neq=>true
  | _=>false
def bps:List UInt8 -> List UInt8 -> Bool
  | [], y=>match y with
    | []=>true
    | _=>false
  | x :: l, y=>match y with
    | x' :: l'=>match Nat.beq x.toNat x'.toNat with
      | true=>bps l l'
      | false=>false
    | []=>false
theorem ay7:∀ {a b:List UInt8}, bps a b = (a == b)
 | [],[]=>rfl
 | [],_ :: _=>rfl
 | _ :: _,[]=>rfl
 | x :: l, x' :: l'=>by
  show (match Nat.beq x.toNat x'.toNat with | true=>bps l l' | false=>false) = _
  cases h:Nat.beq x.toNat x'.toNat with
  | true =>
   have:x = x':=UInt8.toNat_inj.1 (eq_of_beq_eq_true h)
   subst this
   simp only [ay7 (a:=l)]
   simp
  | false =>
   have:x ≠ x':=fun e=>Nat.ne_of_beq_eq_false h (by rw [e])
   simp [this]
def bd6 (a b:ByteArray):Bool:=bps a.data.toList b.data.toList
theorem aye (a b:ByteArray):(a.toList == b.toList) = bd6 a b:=by
 unfold bd6; rw [ay7,ByteArray.toList_eq,ByteArray.toList_eq]
def bp8 (P:Program) [Inhabited (Tys P)] (op:BinOp) (S:TypeId) (x y:Operand) (vx vy:Value):Option V1:=match vx with
  | .int k a=>match vy with
    | .int k' b=>bkt op x y k k' a b
    | _=>none
  | vx=>match vy with
    | .nilIface=>match y with
      | .const _=>match bgu vx with
        | true=>match aij P S with
          | some ti=>match ti.k with
            | .iface _=>match op with
              | .eql=>some ⟨.v (.bool (ago vx)),aal x ++ [],[]⟩
              | .neq=>some ⟨.v (.bool !(ago vx)),aal x ++ [],[]⟩
              | _=>none
            | _=>none
          | none=>none
        | false=>none
      | _=>none
    | .string b=>match vx with
      | .string a=>match op with
        | .eql=>match bd6 a b with
          | true=>some ⟨.v (.bool true),aal x ++ aal y,[]⟩
          | false=>some ⟨.v (.bool false),aal x ++ aal y,[]⟩
        | .neq=>match bd6 a b with
          | true=>some ⟨.v (.bool false),aal x ++ aal y,[]⟩
          | false=>some ⟨.v (.bool true),aal x ++ aal y,[]⟩
        | _=>none
      | _=>none
    | vy=>match bk2 P op S x y [] vx vy with
      | some r=>match r.ob with
        | []=>some ⟨r.x,r.rt,r.rd⟩
        | _=>none
      | none=>none
def bih (P:Program) [Inhabited (Tys P)] (T sz:Nat):Bool:=match aij P T with
  | some ti=>match ti.k with
    | .slice E=>match aij P E with
      | some te=>Nat.beq te.size sz
      | none=>false
    | _=>false
  | none=>false
theorem arl {T sz:Nat} (h:bih P T sz = true):∃ ti E te, aah P T = some ti /\ ti.k = .slice E /\ aah P E = some te /\ te.size = sz:=by
 unfold bih at h
 split at h
 ·rename_i ti hti
  split at h
  ·rename_i E hk
   split at h
   ·rename_i te hte
    exact ⟨ti,E,te,aay hti,hk,aay hte,eq_of_beq_eq_true h⟩
   ·cases h
  ·cases h
 ·cases h
def bdC (s:AS) (o:Option Operand) (d:Nat):Option Nat:=match o with
  | none=>some d
  | some x=>match rdC s x with
    | some (.v (.int _ (.ofNat n)))=>some n
    | _=>none
theorem asi {s:AS} {o:Option Operand} {d n:Nat} (h:bdC s o d = some n):EvI s o d n:=by
 cases o with
 | none=>cases h; exact .none d
 | some x =>
  simp only [bdC] at h
  split at h
  ·rename_i hx
   cases h
   exact .some (i:=Int.ofNat n) d (abb hx) (Int.natCast_nonneg _)
  ·cases h
def ldE (ti:TI) (l:List AV):Option AV:=match ti.ag with
  | true=>match frc (l.take ti.size) with
    | some r=>some (.agg r)
    | none=>none
  | false=>match Nat.beq ti.size 1 with
    | true=>match l with
      | x :: _=>some x
      | []=>none
    | false=>none
theorem bma {ti:TI} {l:List AV} {x:AV} (h:ldE ti l = some x):(ti.ag || Nat.beq ti.size 1) = true /\ x = mkT ti.ag (l.take ti.size):=by
 unfold ldE at h
 split at h
 ·rename_i ha
  split at h
  ·rename_i r hr; cases h; rw [ha,ag1 hr]; exact ⟨rfl,rfl⟩
  ·cases h
 ·rename_i ha
  split at h
  ·rename_i h1
   split at h
   ·cases h; rw [ha,eq_of_beq_eq_true h1]; exact ⟨rfl,rfl⟩
   ·cases h
  ·cases h
def bkz:List AV -> List AV -> Option (List Value × List Nat)
  | [],[]=>some ([],[])
  | .v (.int .i64 a) :: l, .v (.int .i64 b) :: l'=>match a == b with
    | true=>match bkz l l' with
      | some (vs,ks)=>some (.int .i64 a :: vs,1 :: ks)
      | none=>none
    | false=>none
  | .v (.string a) :: l, .v (.string b) :: l'=>match bd6 a b with
    | true=>match bkz l l' with
      | some (vs,ks)=>some (.string a :: vs,2 :: ks)
      | none=>none
    | false=>none
  | _,_=>none
theorem bh3 {a b:ByteArray} (h:bd6 a b = true):a = b:=by
 rw [<- aye,beq_iff_eq,ByteArray.toList_eq,ByteArray.toList_eq] at h
 cases a; cases b; congr 1
 exact Array.ext' h
theorem azw:∀ {l l':List AV} {vs:List Value} {ks:List Nat}, bkz l l' = some (vs, ks) -> l = vs.map .v /\ l' = vs.map .v /\ vs.map vk = ks
 | [],[],_,_,h=>by cases h; exact ⟨rfl,rfl,rfl⟩
 | .v (.int .i64 a) :: l, .v (.int .i64 b) :: l', _, _, h=>by
  rw [bkz] at h
  split at h
  ·rename_i he
   split at h
   ·rename_i vs ks hs
    obtain ⟨h1,h2,h3⟩:=azw hs
    cases h
    cases eq_of_beq he
    exact ⟨by rw [h1]; rfl,by rw [h2]; rfl,by rw [<- h3]; rfl⟩
   ·cases h
  ·cases h
 | .v (.string a) :: l, .v (.string b) :: l', _, _, h=>by
  rw [bkz] at h
  split at h
  ·rename_i he
   split at h
   ·rename_i vs ks hs
    obtain ⟨h1,h2,h3⟩:=azw hs
    cases h
    cases bh3 he
    exact ⟨by rw [h1]; rfl,by rw [h2]; rfl,by rw [<- h3]; rfl⟩
   ·cases h
  ·cases h
def bqj (P:Program) (op:BinOp) (S:TypeId) (x y:Operand) (cs cs':List AV):Option V1:=match op with
  | .neq=>match bkz cs cs' with
    | some (_, ks)=>match bpf P S ks with
      | true=>some ⟨.v (.bool false),aal x ++ aal y,[]⟩
      | false=>none
    | none=>none
  | _=>none
omit [Inhabited (Tys P)] in
theorem bhy {s:AS} {R:Array Oper} {d:Nat} {x y:Operand} {cs cs':List AV} {op:BinOp} {S T t:TypeId} {pos:String} {after:Array Edge} {r:V1} (h:bqj P op S x y cs cs' = some r)
  (hx:Ev s x (.agg cs)) (hy:Ev s y (.agg cs')) (hN:Nat.blt d N = true):Step P N R s ⟨some d,.binOp op S x y T,t,pos,after,none⟩ ⟨some r.x,[],r.rt,r.rd⟩:=by
 unfold bqj at h
 split at h
 ·split at h
  ·rename_i vs ks hs
   obtain ⟨h1,h2,h3⟩:=azw hs
   subst h1; subst h2
   split at h
   ·rename_i hS; cases h; exact bo4 hx hy h3 hS hN
   ·cases h
  ·cases h
 ·cases h
def bpe (P:Program) (t:TypeId):Bool:=match P.underlying t with | some (.pointer _)=>true | _=>false
omit [Inhabited (Tys P)] in
theorem bod {t:TypeId} (h:bpe P t = true):P.underlying t = some (.pointer (P.pointee t)):=by
 unfold bpe at h
 split at h
 ·rename_i e he
  rw [he]
  unfold Program.pointee
  rw [he]
 ·cases h
omit [Inhabited (Tys P)] in
theorem bko {s:AS} {R:Array Oper} {d:Nat} {x:Operand} {k off:Nat} {op:BinOp} {S T t:TypeId} {pos:String} {after:Array Edge} (hop:op = .eql \/ op = .neq)
  (hx:Ev s x (.ptr k off)) (hS:bpe P S = true) (hN:Nat.blt d N = true) :
  Step P N R s ⟨some d,.binOp op S x (.const (.pointer none)) T,t,pos,after,none⟩ ⟨some (.v (.bool (neB op false))),[],aal x,[]⟩ :=
 aa0 rfl rfl hN fun s' hag C m a w hr=>⟨.bool (neB op false), by
  have h:=(hx.agree hag (fun _ h=>h)).rep hr
  have h2:a.eval (.const (.pointer none)) = .pointer none:=rfl
  have hu:=bod hS
  generalize ha:a.eval x = u at h
  cases h
  rcases hop with rfl | rfl
  ·simp [execOp,ha,h2,eqGuard,run_eql_pointer_nil w S _ hu,neB]
  ·simp [execOp,ha,h2,eqGuard,run_neq_pointer_nil w S _ hu,neB],.v _⟩
def ptV (P:Program) (op:BinOp) (S:TypeId) (x y:Operand):Option V1:=match y with
  | .const (.pointer none)=>match br2 op with
    | true=>match bpe P S with
      | true=>match op with
        | .eql=>some ⟨.v (.bool false),aal x,[]⟩
        | _=>some ⟨.v (.bool true),aal x,[]⟩
      | false=>none
    | false=>none
  | _=>none
omit [Inhabited (Tys P)] in
theorem bnn {s:AS} {R:Array Oper} {d:Nat} {x y:Operand} {k off:Nat} {op:BinOp} {S T t:TypeId} {pos:String} {after:Array Edge} {r:V1} (h:ptV P op S x y = some r)
  (hx:Ev s x (.ptr k off)) (hN:Nat.blt d N = true):Step P N R s ⟨some d,.binOp op S x y T,t,pos,after,none⟩ ⟨some r.x,[],r.rt,r.rd⟩:=by
 unfold ptV at h
 split at h
 ·split at h
  ·rename_i hop
   have hop:op = .eql \/ op = .neq:=by cases op <;> first | exact .inl rfl | exact .inr rfl | cases hop
   split at h
   ·rename_i hS
    have h9:=bko (P:=P) (R:=R) (T:=T) (t:=t) (pos:=pos) (after:=after) hop hx hS hN
    rcases hop with rfl | rfl <;> (cases h; exact h9)
   ·cases h
  ·cases h
 ·cases h
def br7 (P:Program) (op:BinOp) (S:TypeId) (x y:Operand) (a b c e:Int):Option V1:=match op with
  | .eql=>match bpn P S with
    | true=>match a == c && b == e with
      | true=>some ⟨.v (.bool true),aal x ++ aal y,[]⟩
      | false=>some ⟨.v (.bool false),aal x ++ aal y,[]⟩
    | false=>none
  | _=>none
def opV (P:Program) [Inhabited (Tys P)] (s:AS) (op:Op):Option V1:=match op with
  | .pick c x y=>match rdC s c with
    | some (.v (.bool b))=>match b with
      | true=>match rdC s x with
        | some (.v (.bool z))=>some ⟨.v (.bool z),aal c ++ (aal x ++ aal y),[]⟩
        | _=>none
      | false=>match rdC s y with
        | some (.v (.bool z))=>some ⟨.v (.bool z),aal c ++ (aal x ++ aal y),[]⟩
        | _=>none
    | _=>none
  | .binOp op S x (.const (.slice none 0 0)) _=>match br2 op with
    | true=>match rdC s x with
      | some xv=>match brs xv with
        | some b=>match aij P S with
          | some ti=>match ti.k with
            | .slice _=>match op with
              | .eql=>some ⟨.v (.bool b),aal x,[]⟩
              | _=>match b with
                | true=>some ⟨.v (.bool false),aal x,[]⟩
                | false=>some ⟨.v (.bool true),aal x,[]⟩
            | _=>none
          | none=>none
        | none=>none
      | none=>none
    | false=>none
  | .binOp op S x y _=>match rdC s x with
    | some (.v vx)=>match rdC s y with
      | some (.v vy)=>bp8 P op S x y vx vy
      | _=>none
    | some (.agg [.v (.int .i64 a), .v (.int .i64 b)])=>match rdC s y with
      | some (.agg [.v (.int .i64 c),.v (.int .i64 e)])=>br7 P op S x y a b c e
      | _=>none
    | some (.ptr _ _)=>ptV P op S x y
    | some (.agg cs)=>match rdC s y with
      | some (.agg cs')=>bqj P op S x y cs cs'
      | _=>none
    | _=>none
  | .unOp .neg _ x=>match rdC s x with
    | some (.v (.int k n))=>wI (k.wrap (0 - n)) fun z=>some ⟨.v (.int k z),aal x,[]⟩
    | _=>none
  | .convert S T x=>match rdC s x with
    | some (.v (.int _ n))=>match aij P S with
      | some _=>match aij P T with
        | some ti=>match ti.k with
          | .int k'=>wI (k'.wrap n) fun z=>some ⟨.v (.int k' z),aal x,[]⟩
          | _=>none
        | none=>none
      | none=>none
    | _=>none
  | .indexAddr T x ix=>match rdC s ix with
    | some (.v (.int _ (.ofNat i)))=>match rdC s x with
      | some (.lst sz es)=>match bih P T sz with
        | true=>match es[i]? with
          | some e=>some ⟨.iptr e.cells,aal x ++ aal ix,[]⟩
          | none=>none
        | false=>none
      | some (.ms k sz off len)=>match bih P T sz && Nat.blt i len with
        | true=>wN (off + i) fun n=>some ⟨.eptr k sz n 0,aal x ++ aal ix,[]⟩
        | false=>none
      | some (.ptr k off)=>match aij P T with
        | some ti=>match ti.k with
          | .array n E=>match aij P E with
            | some te=>match Nat.blt i n with
              | true=>wN (off + i * te.size) fun m=>some ⟨.ptr k m,aal x ++ aal ix,[]⟩
              | false=>none
            | none=>none
          | _=>none
        | none=>none
      | _=>none
    | _=>none
  | .load T x=>match rdC s x with
    | some (.eptr k sz i off)=>match s.blk k with
      | some (.row sz' es)=>match Nat.beq sz sz' with
        | true=>match es[i]? with
          | some e=>match aij P T with
            | some ti=>match Nat.ble (off + ti.size) e.cells.length with
              | true=>match ldE ti (e.cells.drop off) with
                | some v=>some ⟨v,aal x,[k]⟩
                | none=>none
              | false=>none
            | none=>none
          | none=>none
        | false=>none
      | _=>none
    | some y=>match aij P T with
      | some ti=>match a2y P s ti x [] y with
        | some r=>some ⟨r.x,r.rt,r.rd⟩
        | none=>none
      | none=>none
    | none=>none
  | .index T x ix=>match rdC s ix with
    | some (.v (.int _ (.ofNat i)))=>match rdC s x with
      | some (.v (.string b))=>match aij P T with
        | some ti=>match ti.k with
          | .string=>match Nat.blt i b.size with
            | true=>wN (b.data.getD i 0).toNat fun n=>some ⟨.v (.int .u8 (Int.ofNat n)),aal x ++ aal ix,[]⟩
            | false=>none
          | _=>none
        | none=>none
      | _=>none
    | _=>none
  | .slice T x lo hi none=>match rdC s x with
    | some (.lst sz es)=>match bdC s lo 0 with
      | some l=>match bdC s hi es.length with
        | some h=>match bih P T sz && Nat.ble l h && Nat.ble h es.length with
          | true=>match frc ((es.drop l).take (h - l)) with
            | some r=>some ⟨.lst sz r,aal x ++ (rtO lo ++ rtO hi),[]⟩
            | none=>none
          | false=>none
        | none=>none
      | none=>none
    | some (.v (.slice none 0 0))=>match bdC s lo 0 with
      | some 0=>match bdC s hi 0 with
        | some 0=>match aij P T with
          | some ti=>match ti.k with
            | .slice E=>match aij P E with
              | some _=>some ⟨.v (.slice none 0 0),aal x ++ (rtO lo ++ rtO hi),[]⟩
              | none=>none
            | _=>none
          | none=>none
        | _=>none
      | _=>none
    | some (.ms k sz off len)=>match bdC s lo 0 with
      | some l=>match bdC s hi len with
        | some h=>match bih P T sz && Nat.ble l h && Nat.ble h len with
          | true=>wN (off + l) fun a=>wN (h - l) fun b=>some ⟨.ms k sz a b,aal x ++ (rtO lo ++ rtO hi),[]⟩
          | false=>none
        | none=>none
      | none=>none
    | _=>none
  | .call ⟨.builtin .len, args, ts⟩=>match args.toList with
    | [x]=>match ts.toList with
      | [T]=>match rdC s x with
        | some (.lst _ es)=>match aij P T with
          | some ti=>match ti.k with
            | .slice _=>wN es.length fun n=>some ⟨.v (.int .i64 (Int.ofNat n)),aal x,[]⟩
            | _=>none
          | none=>none
        | some y=>match bkv P x T [] y with
          | some r=>some ⟨r.x,r.rt,r.rd⟩
          | none=>none
        | none=>none
      | _=>none
    | _=>none
  | .call ⟨.builtin .max, args, ts⟩=>match args.toList with
    | [x, y]=>match rdC s x with
      | some (.v (.int .i64 a))=>match rdC s y with
        | some (.v (.int .i64 b))=>wI (if b > a then b else a) fun z=>some ⟨.v (.int .i64 z),aal x ++ aal y,[]⟩
        | _=>none
      | _=>none
    | _=>none
  | op=>match bai P false True s op with
    | some r=>match r.ob with
      | []=>some ⟨r.x,r.rt,r.rd⟩
      | _=>none
    | none=>none
omit [Inhabited (Tys P)] in
theorem bmm {N d:Nat} {s:AS} {R:Array Oper} {x y:Operand} {a b:Int} {t:TypeId} {ts:Array TypeId} {pos:String} {after:Array Edge} (hx:Ev s x (.v (.int .i64 a))) (hy:Ev s y (.v (.int .i64 b))) (hN:Nat.blt d N = true) :
  Step P N R s ⟨some d,.call ⟨.builtin .max,#[x,y],ts⟩,t,pos,after,none⟩ ⟨some (.v (.int .i64 (if b > a then b else a))),[],aal x ++ aal y,[]⟩ :=
 aa0 rfl rfl hN fun s' hag C m ac w hr=>⟨.int .i64 (if b > a then b else a), by
  have h:=(hx.agree hag (fun _ h=>List.mem_append.2 (.inl h))).rep hr
  have h':=(hy.agree hag (fun _ h=>List.mem_append.2 (.inr h))).rep hr
  generalize hu:ac.eval x = u at h
  generalize hv:ac.eval y = v at h'
  cases h; cases h'
  simp [execOp,resolve,hu,hv,invoke,builtin,Builtin.max_,Builtin.max2],.v _⟩
section
variable {s:AS} {R:Array Oper} {d:Nat} {t T:TypeId} {pos:String} {after:Array Edge}
theorem bjz {op:BinOp} {x y:Operand} {vx vy:Value} {S:TypeId} {r:V1} (hx:Ev s x (.v vx)) (hy:Ev s y (.v vy)) (h:bp8 P op S x y vx vy = some r) (hN:Nat.blt d N = true) :
  Step P N R s ⟨some d,.binOp op S x y T,t,pos,after,none⟩ ⟨some r.x,[],r.rt,r.rd⟩:=by
 unfold bp8 at h
 split at h
 ·split at h
  ·exact bj3 hx hy h hN
  ·cases h
 ·split at h
  ·split at h
   ·rename_i c
    have hc:c = .nilIface:=by cases hy; rfl
    subst hc
    split at h
    ·rename_i he
     split at h
     ·rename_i ti hti
      split at h
      ·rename_i hk
       split at h
       ·cases h; exact a65 hx (axp he) (aay hti) hk hN
       ·cases h; exact a7e hx (axp he) (aay hti) hk hN
       ·cases h
      ·cases h
     ·cases h
    ·cases h
   ·cases h
  ·split at h
   ·split at h
    ·have h9:=a03 (P:=P) (R:=R) (S:=S) (T:=T) (t:=t) (pos:=pos) (after:=after) hx hy hN
     rw [aye] at h9
     split at h
     ·rename_i hb; rw [hb] at h9; cases h; exact h9
     ·rename_i hb; rw [hb] at h9; cases h; exact h9
    ·have h9:=a6b (P:=P) (R:=R) (S:=S) (T:=T) (t:=t) (pos:=pos) (after:=after) hx hy hN
     rw [aye] at h9
     split at h
     ·rename_i hb; rw [hb] at h9; cases h; exact h9
     ·rename_i hb; rw [hb] at h9; cases h; exact h9
    ·cases h
   ·cases h
  ·split at h
   ·rename_i r' h1
    split at h
    ·rename_i ho; cases h; exact ba3 hx hy h1 (by rw [ho]; exact .nil) hN
    ·cases h
   ·cases h
theorem a93 {op:Op} {r:V1} (h:opV P s op = some r) (hN:Nat.blt d N = true):Step P N R s ⟨some d, op, t, pos, after, none⟩ ⟨some r.x, [], r.rt, r.rd⟩:=by
 unfold opV at h
 split at h
 ·split at h
  ·rename_i hc
   split at h
   ·split at h
    ·rename_i z hz; cases h
     exact baq (bz:=z) (abb hc) (fun _=>abb hz) (fun e=>by cases e) hN
    ·cases h
   ·split at h
    ·rename_i z hz; cases h
     exact baq (bx:=z) (abb hc) (fun e=>by cases e) (fun _=>abb hz) hN
    ·cases h
  ·cases h
 ·rename_i op S x T
  split at h
  ·rename_i hop
   have hop:op = .eql \/ op = .neq:=by cases op <;> first | exact .inl rfl | exact .inr rfl | cases hop
   split at h
   ·rename_i xv hx
    split at h
    ·rename_i b hv
     split at h
     ·rename_i ti hti
      split at h
      ·rename_i hk
       have h9:=biu (P:=P) (R:=R) (T:=T) (t:=t) (pos:=pos) (after:=after) hop (abb hx) hv (aay hti) hk hN
       rcases hop with rfl | rfl
       ·cases h; exact h9
       ·cases b <;> (cases h; exact h9)
      ·cases h
     ·cases h
    ·cases h
   ·cases h
  ·cases h
 ·rename_i T hne
  split at h
  ·rename_i hx
   split at h
   ·rename_i hy; exact bjz (abb hx) (abb hy) h hN
   ·cases h
  ·rename_i hx
   split at h
   ·rename_i hy
    unfold br7 at h
    split at h
    ·split at h
     ·rename_i he
      have h9:=boq (P:=P) (R:=R) (T:=T) (t:=t) (pos:=pos) (after:=after) (abb hx) (abb hy) he hN
      split at h
      ·rename_i hb; rw [hb] at h9; cases h; exact h9
      ·rename_i hb; rw [hb] at h9; cases h; exact h9
     ·cases h
    ·cases h
   ·cases h
  ·rename_i hx; exact bnn h (abb hx) hN
  ·rename_i hx
   split at h
   ·rename_i hy; exact bhy h (abb hx) (abb hy) hN
   ·cases h
  ·cases h
 ·split at h
  ·rename_i hx; rw [au0] at h; cases h; exact beg (abb hx) hN
  ·cases h
 ·split at h
  ·rename_i hx
   split at h
   ·rename_i hS
    split at h
    ·rename_i hT
     split at h
     ·rename_i hk; rw [au0] at h; cases h; exact blj (abb hx) hN (aay hS) (aay hT) hk
     ·cases h
    ·cases h
   ·cases h
  ·cases h
 ·split at h
  ·rename_i i hi
   split at h
   ·rename_i hx
    split at h
    ·rename_i hs
     obtain ⟨ti,E,te,h1,h2,h3,h4⟩:=arl hs
     split at h
     ·rename_i e he; cases h
      exact a2p (i:=Int.ofNat i) (abb hx) (abb hi) h1 h2 h3 h4 (Int.natCast_nonneg _) he hN
     ·cases h
    ·cases h
   ·rename_i hx
    split at h
    ·rename_i hs
     simp only [and_eq_true,Nat.blt_eq] at hs
     obtain ⟨ti,E,te,h1,h2,h3,h4⟩:=arl hs.1
     rw [avh] at h; cases h
     exact ais (i:=Int.ofNat i) (abb hx) (abb hi) h1 h2 h3 h4 (Int.natCast_nonneg _) (Int.ofNat_lt.2 hs.2) hN
    ·cases h
   ·rename_i hx
    split at h
    ·rename_i hT
     split at h
     ·rename_i hk
      split at h
      ·rename_i hE
       split at h
       ·rename_i hlt
        rw [avh] at h; cases h
        exact apc (i:=Int.ofNat i) (abb hx) (abb hi) (aay hT) hk (aay hE) rfl (Int.natCast_nonneg _) (Int.ofNat_lt.2 (by rw [Nat.blt_eq] at hlt; exact hlt)) hN
       ·cases h
      ·cases h
     ·cases h
    ·cases h
   ·cases h
  ·cases h
 ·split at h
  ·rename_i hx
   split at h
   ·rename_i hk
    split at h
    ·rename_i hs
     split at h
     ·rename_i e he
      split at h
      ·rename_i ti hT
       split at h
       ·rename_i hle
        split at h
        ·rename_i v hv
         cases h
         cases eq_of_beq_eq_true hs
         obtain ⟨h1,rfl⟩:=bma hv
         exact aau (abb hx) hk he (aay hT) hle h1 hN
        ·cases h
       ·cases h
      ·cases h
     ·cases h
    ·cases h
   ·cases h
  ·rename_i hx
   split at h
   ·rename_i ti hT
    split at h
    ·rename_i h1; cases h; exact a2d (abb hx) (aay hT) h1 hN
    ·cases h
   ·cases h
  ·cases h
 ·split at h
  ·rename_i i hi
   split at h
   ·rename_i hx
    split at h
    ·rename_i ti hT
     split at h
     ·rename_i hk
      split at h
      ·rename_i hb
       rw [Nat.blt_eq] at hb
       rw [avh] at h; cases h
       exact amh (i:=Int.ofNat i) (abb hx) (abb hi) (aay hT) hk (Int.natCast_nonneg _) (Int.ofNat_lt.2 hb) hN
      ·cases h
     ·cases h
    ·cases h
   ·cases h
  ·cases h
 ·split at h
  ·rename_i hx
   split at h
   ·rename_i l hl
    split at h
    ·rename_i hh hhi
     split at h
     ·rename_i hs
      simp only [and_eq_true,Nat.ble_eq] at hs
      obtain ⟨ti,E,te,h1,h2,h3,h4⟩:=arl hs.1.1
      split at h
      ·rename_i hr; cases h; cases ag1 hr
       exact aaq (abb hx) (asi hl) (asi hhi) h1 h2 h3 h4 hs.1.2 hs.2 hN
      ·cases h
     ·cases h
    ·cases h
   ·cases h
  ·rename_i hx
   split at h
   ·rename_i hl
    split at h
    ·rename_i hh
     split at h
     ·rename_i ti hT
      split at h
      ·rename_i E hk
       split at h
       ·rename_i te hE
        cases h
        exact a3a (abb hx) (asi hl) (asi hh) (aay hT) hk (aay hE) hN
       ·cases h
      ·cases h
     ·cases h
    ·cases h
   ·cases h
  ·rename_i hx
   split at h
   ·rename_i l hl
    split at h
    ·rename_i hh hhi
     split at h
     ·rename_i hs
      simp only [and_eq_true,Nat.ble_eq] at hs
      obtain ⟨ti,E,te,h1,h2,h3,h4⟩:=arl hs.1.1
      rw [avh,avh] at h; cases h
      exact ajd (abb hx) (asi hl) (asi hhi) h1 h2 h3 h4 hs.1.2 hs.2 hN
     ·cases h
    ·cases h
   ·cases h
  ·cases h
 ·rename_i args ts
  split at h
  ·rename_i x hx
   split at h
   ·rename_i T hT
    have e1:args = #[x]:=by apply Array.toList_inj.1; simpa using hx
    have e2:ts = #[T]:=by apply Array.toList_inj.1; simpa using hT
    subst e1; subst e2
    split at h
    ·rename_i h1
     split at h
     ·rename_i ti hti
      split at h
      ·rename_i hk; rw [avh] at h; cases h; exact a2b (abb h1) (aay hti) hk hN
      ·cases h
     ·cases h
    ·rename_i h1
     split at h
     ·rename_i h2; cases h; exact ba1 (abb h1) h2 hN
     ·cases h
    ·cases h
   ·cases h
  ·cases h
 ·rename_i args ts
  split at h
  ·rename_i x y hx
   split at h
   ·rename_i h1
    split at h
    ·rename_i h2
     have e1:args = #[x,y]:=by apply Array.toList_inj.1; simpa using hx
     subst e1
     rw [au0] at h; cases h; exact bmm (abb h1) (abb h2) hN
    ·cases h
   ·cases h
  ·cases h
 ·split at h
  ·rename_i h1
   split at h
   ·rename_i ho; cases h; exact aoy h1 (by rw [ho]; exact .nil) trivial hN
   ·cases h
  ·cases h
end
end Go.Lw
namespace Go.Lw
variable {P:Program} {N:Nat}
def tr (a b k:Nat):Nat:=match Nat.beq k a with
  | true=>b
  | false=>match Nat.beq k b with
    | true=>a
    | false=>k
theorem bq7 (a b k:Nat):tr a b k = if k = a then b else if k = b then a else k:=by
 unfold tr
 split
 ·rename_i h; rw [if_pos (eq_of_beq_eq_true h)]
 ·rename_i h; rw [if_neg (Nat.ne_of_beq_eq_false h)]
  split
  ·rename_i h; rw [if_pos (eq_of_beq_eq_true h)]
  ·rename_i h; rw [if_neg (Nat.ne_of_beq_eq_false h)]
theorem bek (a b k:Nat):tr a b (tr a b k) = k:=by
 simp only [bq7]
 by_cases h1:k = a
 ·subst h1
  by_cases h2:b = k
  ·simp [h2]
  ·simp [h2]
 ·by_cases h2:k = b
  ·subst h2; simp [h1]
  ·simp [h1,h2]
theorem a8a {σ:Nat -> Nat} (hσ:∀ k, σ (σ k) = k):∀ H:Hp, pmH σ (pmH σ H) = H
 | []=>rfl
 | (k, x) :: l=>by
  simp only [pmH,hσ,a8a hσ l]
  cases x with
  | none=>rfl
  | some x=>simp only [Blk.pm_pm hσ]
def tA:List (Nat × Nat) -> List AV -> List AV
  | [],xs=>xs
  | p :: L,xs=>tA L (xs.map (AV.pm (tr p.1 p.2)))
def tH:List (Nat × Nat) -> Hp -> Hp
  | [],H=>H
  | p :: L,H=>tH L (pmH (tr p.1 p.2) H)
def rB:List (Nat × Nat) -> AV -> AV
  | [],r=>r
  | p :: L,r=>(rB L r).pm (tr p.1 p.2)
def hB:List (Nat × Nat) -> Hp -> Hp
  | [],H=>H
  | p :: L,H=>pmH (tr p.1 p.2) (hB L H)
theorem bsb {f:FuncId}:∀ {L:List (Nat × Nat)} {xs:List AV} {H H':Hp} {r:AV}, Con P f (tA L xs) (tH L H) r H' -> Con P f xs H (rB L r) (hB L H')
 | [],xs,H,H',r,h=>h
 | p :: L, xs, H, H', r, h=>by
  have h1:=(bsb (L:=L) h).pm (bek p.1 p.2)
  rw [a8a (bek p.1 p.2),map_map] at h1
  have e:(AV.pm (tr p.1 p.2) ∘ AV.pm (tr p.1 p.2)) = id:=by funext x; exact AV.pm_pm (bek p.1 p.2) x
  rw [e,List.map_id] at h1
  exact h1
def bsa:Nat -> List Nat -> List (Nat × Nat)
  | _,[]=>[]
  | b,k :: ks=>(k,b) :: bsa (b + 1) ks
def a3z (k:Nat):List Nat -> Bool
  | []=>false
  | x :: l=>match Nat.beq k x with
    | true=>true
    | false=>a3z k l
def a3w (s:AS):Nat -> List Nat -> List Nat -> List Nat
  | 0,_,acc=>acc
  | n + 1, ks, acc=>match ks with
    | []=>acc
    | k :: ks=>match a3z k acc with
      | true=>a3w s n ks acc
      | false=>match s.blk k with
        | some z=>a3w s n (z.nm ++ ks) (acc ++ [k])
        | none=>a3w s n ks acc
def pkH (s:AS):List Nat -> Hp
  | []=>[]
  | k :: ks=>match s.blk k with
    | some z=>(k,some z) :: pkH s ks
    | none=>pkH s ks
theorem aww {s:AS}:∀ {ks:List Nat} {k:Nat} {z:Blk}, lk (pkH s ks) k = some z -> lk s.hp k = some z
 | [],k,z,h=>by cases h
 | k' :: ks, k, z, h=>by
  unfold pkH at h
  split at h
  ·rename_i y hy
   rw [aac] at h
   split at h
   ·rename_i e; cases h; rw [e]; exact hy
   ·exact aww h
  ·exact aww h
structure Ent (P:Program) where
  f:FuncId
  xs:List AV
  r:AV
  H':Hp
  con:Con P f xs [] r H'
structure FE (P:Program) where
  f:FuncId
  fn:Func
  c:Code
  rs:List ResultVar
  hf:P.funcs[f]? = some fn
  hb:fn.body = some c
  hn : (fn.name == "runtime.NumGoroutine") = false
  hrs:fn.results = rs.toArray
structure Env (P:Program) where
  orc:FuncId -> Option (List AV -> Option (Ent P))
  fe:FuncId -> Option (FE P)
  mt:FuncId -> Bool
def vEq:Value -> Value -> Bool
  | .int k a,.int k' b=>Nat.beq (ikn k) (ikn k') && aaa .eql a b
  | .bool a,.bool b=>a == b
  | .nilIface,.nilIface=>true
  | .string a,.string b=>bd6 a b
  | .slice none 0 0,.slice none 0 0=>true
  | .func (.func f) ⟨[]⟩ ⟨[]⟩,.func (.func g) ⟨[]⟩ ⟨[]⟩=>Nat.beq f g
  | .nilFunc,.nilFunc=>true
  | .pointer none,.pointer none=>true
  | .iface T v,.iface T' v'=>Nat.beq T T' && vEq v v'
  | _,_=>false
theorem bhl {a b:ByteArray} (h:bd6 a b = true):a = b:=by
 unfold bd6 at h
 rw [ay7] at h
 have h:=eq_of_beq h
 have e:∀ c:ByteArray,c = ⟨⟨c.data.toList⟩⟩:=fun c=>by cases c; rfl
 rw [e a,e b,h]
theorem a0o:∀ (a b:Value), vEq a b = true -> a = b
 | .iface T v, b, h=>by
  cases b with
  | iface T' v' =>
   simp only [vEq,and_eq_true] at h
   rw [eq_of_beq_eq_true h.1,a0o v v' h.2]
  | _=>simp [vEq] at h
 | .int k a, b, h=>by
  cases b with
  | int k' b =>
   simp only [vEq,and_eq_true] at h
   rw [ah9 h.1,eq_of_beq (show (a == b) = true from h.2)]
  | _=>simp [vEq] at h
 | .bool a, b, h=>by
  cases b with
  | bool b=>simp only [vEq,beq_iff_eq] at h; rw [h]
  | _=>simp [vEq] at h
 | .string a, b, h=>by
  cases b with
  | string b=>simp only [vEq] at h; rw [bhl h]
  | _=>simp [vEq] at h
 | .nilIface, b, h=>by
  cases b <;> simp [vEq] at h
  rfl
 | .slice x n c, b, h=>by
  unfold vEq at h
  split at h <;> simp_all
 | .float ..,b,h=>by simp [vEq] at h
 | .complex ..,b,h=>by simp [vEq] at h
 | .pointer p, b, h=>by
  unfold vEq at h
  split at h <;> simp_all
 | .map _,b,h=>by simp [vEq] at h
 | .chan _,b,h=>by simp [vEq] at h
 | .func f x y, b, h=>by
  unfold vEq at h
  split at h <;> first | (simp_all; done) | (simp_all; exact eq_of_beq_eq_true h)
 | .nilFunc, b, h=>by
  unfold vEq at h
  split at h <;> simp_all
 | .agg _,b,h=>by simp [vEq] at h
 | .tuple _,b,h=>by simp [vEq] at h
mutual
def aot:AV -> AV -> Bool
  | .v a, y=>match y with
    | .v b=>vEq a b
    | .lst _ es=>match es with
      | []=>match a with
        | .slice _ 0 _=>true
        | _=>false
      | _=>false
    | _=>false
  | .lst sz es, y=>match y with
    | .lst sz' es'=>Nat.beq sz sz' && ayv es es'
    | _=>false
  | .agg cs, y=>match y with
    | .agg cs'=>ay9 cs cs'
    | _=>false
  | .tup cs, y=>match y with
    | .tup cs'=>a4n cs cs'
    | _=>false
  | _,_=>false
def ay9:List AV -> List AV -> Bool
  | [], y=>match y with
    | []=>true
    | _=>false
  | x :: l, y=>match y with
    | x' :: l'=>x'.one && aot x x' && ay9 l l'
    | []=>false
def a4n:List AV -> List AV -> Bool
  | [], y=>match y with
    | []=>true
    | _=>false
  | x :: l, y=>match y with
    | x' :: l'=>aot x x' && a4n l l'
    | []=>false
def ayv:List AV -> List AV -> Bool
  | [], y=>match y with
    | []=>true
    | _=>false
  | x :: l, y=>match y with
    | x' :: l'=>auw x x' && ayv l l'
    | []=>false
def auw:AV -> AV -> Bool
  | .agg cs, y=>match y with
    | .agg cs'=>ay9 cs cs'
    | _=>false
  | .v a, y=>match y with
    | .v b=>vEq a b && b.oneCell'
    | .lst _ es=>match es with
      | []=>match a with
        | .slice _ 0 _=>true
        | _=>false
      | _=>false
    | _=>false
  | .lst sz es, y=>match y with
    | .lst sz' es'=>Nat.beq sz sz' && ayv es es'
    | _=>false
  | _,_=>false
end
theorem bmr {a:Value} {y:AV} (h:aot (.v a) y = true):Sub (.v a) y:=by
 cases y with
 | v b=>simp only [aot] at h; rw [a0o _ _ h]; exact .refl _
 | lst sz es =>
  cases es with
  | nil =>
   cases a with
   | slice x n c =>
    cases n with
    | zero=>exact .nil _ _ _
    | succ n=>simp [aot] at h
   | _=>simp [aot] at h
  | cons e es=>simp [aot] at h
 | _=>simp [aot] at h
mutual
theorem ayt:∀ (x y:AV), aot x y = true -> Sub x y
 | .v a,y,h=>bmr h
 | .lst sz es, y, h=>by
  cases y with
  | lst sz' es' =>
   simp only [aot,and_eq_true] at h
   cases eq_of_beq_eq_true h.1
   exact Sub.lst (alo es es' h.2).1 (alo es es' h.2).2
  | _=>simp [aot] at h
 | .agg cs, y, h=>by
  cases y with
  | agg cs' =>
   simp only [aot] at h
   exact Sub.agg (ao7 cs cs' h).1 (ao7 cs cs' h).2
  | _=>simp [aot] at h
 | .tup cs, y, h=>by
  cases y with
  | tup cs' =>
   simp only [aot] at h
   exact Sub.tup (a1n cs cs' h)
  | _=>simp [aot] at h
 | .iptr _,y,h=>by simp [aot] at h
 | .ms ..,y,h=>by simp [aot] at h
 | .ptr ..,y,h=>by simp [aot] at h
 | .eptr ..,y,h=>by simp [aot] at h
 | .fn ..,y,h=>by simp [aot] at h
 | .opt ..,y,h=>by simp [aot] at h
 | .yl ..,y,h=>by simp [aot] at h
 | .cl ..,y,h=>by simp [aot] at h
theorem ao7:∀ (l l':List AV), ay9 l l' = true -> SubL l l' /\ l'.all AV.one = true
 | [],[],h=>⟨.nil,rfl⟩
 | [],_ :: _,h=>by simp [ay9] at h
 | _ :: _,[],h=>by simp [ay9] at h
 | x :: l, x' :: l', h=>by
  simp only [ay9,and_eq_true] at h
  obtain ⟨h1,h2⟩:=ao7 l l' h.2
  exact ⟨.cons (ayt x x' h.1.2) h1,by simp only [List.all_cons,h.1.1,h2,Bool.and_self]⟩
theorem a1n:∀ (l l':List AV), a4n l l' = true -> SubL l l'
 | [],[],h=>.nil
 | [],_ :: _,h=>by simp [a4n] at h
 | _ :: _,[],h=>by simp [a4n] at h
 | x :: l, x' :: l', h=>by
  simp only [a4n,and_eq_true] at h
  exact .cons (ayt x x' h.1) (a1n l l' h.2)
theorem alo:∀ (l l':List AV), ayv l l' = true -> l.length = l'.length /\ ∀ (i:Nat) (e e':AV), l[i]? = some e -> l'[i]? = some e' -> aev e e'
 | [],[],h=>⟨rfl,fun i e e' h=>by simp at h⟩
 | [],_ :: _,h=>by simp [ayv] at h
 | _ :: _,[],h=>by simp [ayv] at h
 | x :: l, x' :: l', h=>by
  simp only [ayv,and_eq_true] at h
  obtain ⟨h1,h2⟩:=alo l l' h.2
  refine ⟨by simp [h1],?_⟩
  intro i e e' he he'
  cases i with
  | zero=>simp at he he'; subst he; subst he'; exact bid x x' h.1
  | succ i=>exact h2 i e e' (by simpa using he) (by simpa using he')
theorem bid:∀ (x y:AV), auw x y = true -> aev x y
 | .v a, y, h=>by
  have one:∀ {z:AV}, z.cells = [z] -> z.one = true -> Sub (.v a) z -> aev (.v a) z:=by
   intro z h1 h2 h3
   refine ⟨by rw [h1]; rfl,?_⟩
   intro j x y hx hy
   rw [h1] at hy
   cases j with
   | zero=>simp [AV.cells] at hx hy; subst hx; subst hy; exact ⟨h2,h3⟩
   | succ j=>simp at hy
  cases y with
  | v b =>
   simp only [auw,and_eq_true] at h
   exact one rfl h.2 (by rw [a0o _ _ h.1]; exact .refl _)
  | lst sz es =>
   refine one rfl rfl (bmr ?_)
   cases es with
   | nil=>unfold auw at h; unfold aot; exact h
   | cons=>simp [auw] at h
  | _=>simp [auw] at h
 | .lst sz es, y, h=>by
  cases y with
  | lst sz' es' =>
   simp only [auw,and_eq_true] at h
   cases eq_of_beq_eq_true h.1
   refine ⟨rfl,?_⟩
   intro j x y hx hy
   cases j with
   | zero =>
    simp [AV.cells] at hx hy; subst hx; subst hy
    exact ⟨rfl,Sub.lst (alo es es' h.2).1 (alo es es' h.2).2⟩
   | succ j=>simp [AV.cells] at hy
  | _=>simp [auw] at h
 | .agg cs, y, h=>by
  cases y with
  | agg cs' =>
   simp only [auw] at h
   obtain ⟨h1,h2⟩:=ao7 cs cs' h
   exact ⟨h1.len,fun j x y hx hy=>⟨List.all_eq_true.1 h2 y (mem_of_getElem? hy),h1.get j x y hx hy⟩⟩
  | _=>simp [auw] at h
 | .tup ..,y,h=>by simp [auw] at h
 | .iptr _,y,h=>by simp [auw] at h
 | .ms ..,y,h=>by simp [auw] at h
 | .ptr ..,y,h=>by simp [auw] at h
 | .eptr ..,y,h=>by simp [auw] at h
 | .fn ..,y,h=>by simp [auw] at h
 | .opt ..,y,h=>by simp [auw] at h
 | .yl ..,y,h=>by simp [auw] at h
 | .cl ..,y,h=>by simp [auw] at h
end
end Go.Lw
namespace Go.Lw
variable {P:Program} {N:Nat}
inductive OR where
  | ok (u:Out)
  | need (k:Nat)
  | no
inductive CR where
  | ok (H:Hp) (r:AV) (H':Hp)
  | need (k:Nat)
  | no
def ax9:List AV -> List AV -> Bool
  | [], y=>match y with
    | []=>true
    | _=>false
  | x :: l, y=>match y with
    | x' :: l'=>aot x x' && ax9 l l'
    | []=>false
theorem a2w:∀ {l l':List AV}, ax9 l l' = true -> SubL l l'
 | [],[],h=>.nil
 | [],_ :: _,h=>by simp [ax9] at h
 | _ :: _,[],h=>by simp [ax9] at h
 | x :: l, x' :: l', h=>by
  simp only [ax9,and_eq_true] at h
  exact .cons (ayt x x' h.1) (a2w h.2)
def mx:Nat -> List Nat -> Nat
  | m,[]=>m
  | m, k :: l=>match Nat.blt m k && Nat.blt k 1000 with
    | true=>mx k l
    | false=>mx m l
def bg6 (s:AS):Nat -> Nat -> Nat
  | 0,k=>k
  | n + 1, k=>match s.freshB k with
    | true=>k
    | false=>bg6 s n (k + 1)
def nxt (s:AS) (av:List Nat):Nat:=bg6 s 100 (mx (mx 299 (s.hp.map (·.1))) av + 1)
mutual
theorem AV.pm_id (σ:Nat -> Nat):∀ x:AV, x.nm = [] -> x.pm σ = x
 | .ms k sz off len,h=>by simp [AV.nm] at h
 | .ptr k off,h=>by simp [AV.nm] at h
 | .eptr k sz i off,h=>by simp [AV.nm] at h
 | .yl k,h=>by simp [AV.nm] at h
 | .agg cs,h=>by simp only [AV.pm]; rw [AV.pms_id σ cs (by simpa only [AV.nm] using h)]
 | .tup cs,h=>by simp only [AV.pm]; rw [AV.pms_id σ cs (by simpa only [AV.nm] using h)]
 | .fn f cs,h=>by simp only [AV.pm]; rw [AV.pms_id σ cs (by simpa only [AV.nm] using h)]
 | .opt b x,h=>by simp only [AV.pm]; rw [AV.pm_id σ x (by simpa only [AV.nm] using h)]
 | .v x,h=>rfl
 | .lst sz l,h=>rfl
 | .iptr l,h=>rfl
 | .cl f cs ds,h=>rfl
theorem AV.pms_id (σ:Nat -> Nat):∀ l:List AV, AV.nms l = [] -> AV.pms σ l = l
 | [],h=>rfl
 | x :: l, h=>by
  simp only [AV.nms,List.append_eq_nil_iff] at h
  simp only [AV.pms]; rw [AV.pm_id σ x h.1,AV.pms_id σ l h.2]
end
theorem biq {f:FuncId} {xs:List AV} {r:AV} {H':Hp} (h:Con P f xs [] r H') (hx:AV.nms xs = []) (k d:Nat):Con P f xs [] (r.pm (tr k d)) (pmH (tr k d) H'):=by
 have h1:=h.pm (bek k d)
 rw [<- AV.pms_eq,AV.pms_id _ xs hx] at h1
 exact h1
abbrev ain:=List Nat -> FuncId -> List AV -> Hp -> Option (AV × Hp)
def ain.Ok (P:Program) (F:ain):Prop:=∀ av f xs H r H',F av f xs H = some (r,H') -> Con P f xs H r H'
def br6 (s:AS):List Nat -> Option Nat
  | []=>none
  | k :: ks=>match s.blk k with
    | some (.row _ _)=>some k
    | _=>br6 s ks
def bbn (F:ain) (s:AS) (av:List Nat) (f:FuncId) (xs:List AV):CR :=
  match pkH s (a3w s 300 (AV.nms xs) []) with
  | H=>match F (s.hp.map (·.1) ++ av) f xs H with
    | some (r,H')=>.ok H r H'
    | none=>.no
def bad (E:Env P) (F:ain) (s:AS) (av:List Nat) (f:FuncId) (xs:List AV):CR:=match E.mt f with
  | true=>bbn F s av f xs
  | false=>match br6 s (AV.nms xs) with
    | some k=>.need k
    | none=>bbn F s av f xs
def ay1 (E:Env P) (F:ain) (s:AS) (av:List Nat) (f:FuncId) (xs:List AV):CR:=match E.orc f with
  | some g=>match AV.nms xs with
    | k :: _=>.need k
    | []=>match g xs with
      | some e=>match Nat.beq e.f f && ax9 xs e.xs with
        | true=>match e.H' with
          | (k,some z) :: l=>.ok [] (e.r.pm (tr k (nxt s av))) (pmH (tr k (nxt s av)) e.H')
          | _=>.ok [] e.r e.H'
        | false=>bad E F s av f xs
      | none=>bad E F s av f xs
  | none=>bad E F s av f xs
theorem a2j {F:ain} (hF:F.Ok P) {s:AS} {av:List Nat} {f:FuncId} {xs:List AV} {H H':Hp} {r:AV} (h:bbn F s av f xs = .ok H r H'):Con P f xs H r H' /\ ∀ k z, lk H k = some z -> s.blk k = some z:=by
 unfold bbn at h
 simp only at h
 split at h
 ·rename_i h1; cases h; exact ⟨hF _ _ _ _ _ _ h1,fun k z hz=>aww hz⟩
 ·cases h
theorem auc {E:Env P} {F:ain} (hF:F.Ok P) {s:AS} {av:List Nat} {f:FuncId} {xs:List AV} {H H':Hp} {r:AV} (h:bad E F s av f xs = .ok H r H'):Con P f xs H r H' /\ ∀ k z, lk H k = some z -> s.blk k = some z:=by
 unfold bad at h
 split at h
 ·exact a2j hF h
 ·split at h
  ·cases h
  ·exact a2j hF h
theorem amu {E:Env P} {F:ain} (hF:F.Ok P) {s:AS} {av:List Nat} {f:FuncId} {xs:List AV} {H H':Hp} {r:AV} (h:ay1 E F s av f xs = .ok H r H'):Con P f xs H r H' /\ ∀ k z, lk H k = some z -> s.blk k = some z:=by
 unfold ay1 at h
 split at h
 ·split at h
  ·cases h
  ·rename_i hn
   split at h
   ·rename_i e he
    split at h
    ·rename_i hc
     simp only [and_eq_true] at hc
     have hf:=eq_of_beq_eq_true hc.1
     subst hf
     have h9:=Con.subA (a2w hc.2) e.con
     split at h
     ·rename_i k z l _
      obtain ⟨rfl,rfl,rfl⟩:=CR.ok.inj h
      exact ⟨biq h9 hn _ _,fun k z hz=>by cases hz⟩
     ·obtain ⟨rfl, rfl, rfl⟩:=CR.ok.inj h
      exact ⟨h9,fun k z hz=>by cases hz⟩
    ·exact auc hF h
   ·exact auc hF h
 ·exact auc hF h
theorem a5k {s:AS} {R:Array Oper} {d q sz cap0:Nat} {a0:Option Addr} {xs:List AV} {x y:Operand} {T E t:TypeId} {ti te:TI} {pos:String} {after:Array Edge}
  (hx:Ev s x (.v (.slice a0 0 0))) (hy:Ev s y (.lst sz xs)) (hT:aah P T = some ti) (hkd:ti.k = .slice E) (hE:aah P E = some te)
  (hsz:te.size = sz) (hz0:(Nat.beq te.zero.length te.size && Nat.blt 0 te.size && Nat.blt 0 te.bytes) = true) (hb:(0 + xs.length) * te.bytes <= 140737488355328) (hdk:Nat.beq d q = false)
  (hN:Nat.blt d N = true) :
  Step P N R s ⟨some d, .call ⟨.builtin .append, #[x, y], #[T, T]⟩, t, pos, after, none⟩
   ⟨some (.ms d sz 0 (0 + xs.length)),[(d,some (.row sz ([] ++ xs))),(q,none)],aal x ++ aal y,[]⟩:=by
 refine ⟨fun s' hag hnew C m a w Q next hC hr hnext=>?_⟩
 have hq:s'.Fresh q:=by
  rcases hnew q (by simp) with h | h
  ·cases h
  ·exact h
 have hd:s'.Fresh d:=by
  rcases hnew d (by simp) with h | h
  ·cases h
  ·exact h
 have hdq:=Nat.ne_of_beq_eq_false hdk
 have hx':=hx.agree hag (fun _ h=>List.mem_append.2 (.inl h))
 have hy':=hy.agree hag (fun _ h=>List.mem_append.2 (.inr h))
 let s2:AS:=⟨s'.sl,(q,some (.row sz [])) :: s'.hp⟩
 have evs:∀ {o:Operand} {z:AV}, Ev s' o z -> Ev s2 o z:=fun h=>by
  cases h with
  | tmp h=>exact .tmp h
  | opt h hb=>exact .opt h hb
  | const c=>exact .const c
  | func f=>exact .func f
 have st:=av8 (P:=P) (N:=N) (R:=R) (s:=s2) (d:=d) (k:=q) (t:=t) (pos:=pos) (after:=after) (es:=[]) (evs hx') (fun g S m v h=>Sub.nilMs a0 q sz g S m v h) (by simp [s2,AS.blk,aac]) rfl (evs hy') hT hkd hE hsz hz0 hb hdk hN
 refine st.run s2 ⟨fun _ _=>rfl,fun _ _=>rfl⟩ ?_ C _ a w Q next hC (hr.virt sz hq) (fun m' a' w' hr'=>hnext m' a' w' ?_)
 ·intro k hk
  simp only [map_cons,List.map_nil,mem_cons,not_mem_nil,or_false] at hk
  rcases hk with rfl | rfl
  ·exact .inr (Fresh.row hd hdq (fun h=>h))
  ·exact .inl (by simp)
 ·refine RelM.congr ?_ ?_ hr'
  ·intro t; rfl
  ·intro k
   simp only [AS.app,AS.blk,s2,List.cons_append,nil_append,aac]
   split
   ·rfl
   ·split <;> rfl
mutual
def a11:AV -> AV -> Bool
  | .v a, y=>match y with
    | .v b=>vEq a b
    | _=>false
  | .lst sz es, y=>match y with
    | .lst sz' es'=>Nat.beq sz sz' && aov es es'
    | _=>false
  | .agg cs, y=>match y with
    | .agg cs'=>aov cs cs'
    | _=>false
  | .tup cs, y=>match y with
    | .tup cs'=>aov cs cs'
    | _=>false
  | .iptr cs, y=>match y with
    | .iptr cs'=>aov cs cs'
    | _=>false
  | .ms k sz off len, y=>match y with
    | .ms k' sz' off' len'=>Nat.beq k k' && (Nat.beq sz sz' && (Nat.beq off off' && Nat.beq len len'))
    | _=>false
  | .ptr k off, y=>match y with
    | .ptr k' off'=>Nat.beq k k' && Nat.beq off off'
    | _=>false
  | .eptr k sz i off, y=>match y with
    | .eptr k' sz' i' off'=>Nat.beq k k' && (Nat.beq sz sz' && (Nat.beq i i' && Nat.beq off off'))
    | _=>false
  | .fn f cs, y=>match y with
    | .fn f' cs'=>Nat.beq f f' && aov cs cs'
    | _=>false
  | .opt _ _,_=>false
  | .yl _,_=>false
  | .cl _ _ _,_=>false
def aov:List AV -> List AV -> Bool
  | [], y=>match y with
    | []=>true
    | _=>false
  | x :: l, y=>match y with
    | x' :: l'=>a11 x x' && aov l l'
    | []=>false
end
mutual
theorem bg8:∀ (x y:AV), a11 x y = true -> x = y
 | .v a,y,h=>by cases y <;> simp [a11] at h; rw [a0o _ _ h]
 | .lst sz es, y, h=>by
  cases y <;> simp only [a11,and_eq_true,Bool.false_eq_true] at h
  rw [eq_of_beq_eq_true h.1,ag3 _ _ h.2]
 | .agg cs,y,h=>by cases y <;> simp only [a11,Bool.false_eq_true] at h; rw [ag3 _ _ h]
 | .tup cs,y,h=>by cases y <;> simp only [a11,Bool.false_eq_true] at h; rw [ag3 _ _ h]
 | .iptr cs,y,h=>by cases y <;> simp only [a11,Bool.false_eq_true] at h; rw [ag3 _ _ h]
 | .ms k sz off len, y, h=>by
  cases y <;> simp only [a11,and_eq_true,Bool.false_eq_true] at h
  rw [eq_of_beq_eq_true h.1,eq_of_beq_eq_true h.2.1,eq_of_beq_eq_true h.2.2.1,eq_of_beq_eq_true h.2.2.2]
 | .ptr k off, y, h=>by
  cases y <;> simp only [a11,and_eq_true,Bool.false_eq_true] at h
  rw [eq_of_beq_eq_true h.1,eq_of_beq_eq_true h.2]
 | .eptr k sz i off, y, h=>by
  cases y <;> simp only [a11,and_eq_true,Bool.false_eq_true] at h
  rw [eq_of_beq_eq_true h.1,eq_of_beq_eq_true h.2.1,eq_of_beq_eq_true h.2.2.1,eq_of_beq_eq_true h.2.2.2]
 | .fn f cs, y, h=>by
  cases y <;> simp only [a11,and_eq_true,Bool.false_eq_true] at h
  rw [eq_of_beq_eq_true h.1,ag3 _ _ h.2]
 | .opt ..,y,h=>by simp [a11] at h
 | .yl ..,y,h=>by simp [a11] at h
 | .cl ..,y,h=>by simp [a11] at h
theorem ag3:∀ (l l':List AV), aov l l' = true -> l = l'
 | [],[],h=>rfl
 | [],_ :: _,h=>by simp [aov] at h
 | _ :: _,[],h=>by simp [aov] at h
 | x :: l, x' :: l', h=>by
  simp only [aov,and_eq_true] at h
  rw [bg8 x x' h.1,ag3 l l' h.2]
end
def bg5:Blk -> Blk -> Bool
  | .box cs,.box cs'=>aov cs cs'
  | .row sz es,.row sz' es'=>Nat.beq sz sz' && aov es es'
  | _,_=>false
theorem bdd {x y:Blk} (h:bg5 x y = true):x = y:=by
 cases x <;> cases y <;> simp only [bg5,Bool.false_eq_true] at h
 ·rw [ag3 _ _ h]
 ·simp only [and_eq_true] at h
  rw [eq_of_beq_eq_true h.1,ag3 _ _ h.2]
theorem aiw {k:Nat}:∀ {l:List Nat}, a3z k l = true ↔ k ∈ l
 | []=>by simp [a3z]
 | x :: l=>by
  unfold a3z
  split
  ·rename_i h; simp [eq_of_beq_eq_true h]
  ·rename_i h; rw [aiw (l:=l)]; simp [Nat.ne_of_beq_eq_false h]
def chg (H:Hp):List Nat -> Hp -> Hp
  | _,[]=>[]
  | seen, (k, x) :: l=>match a3z k seen with
    | true=>chg H seen l
    | false=>match x with
      | some z=>match lk H k with
        | some y=>match bg5 y z with
          | true=>chg H (k :: seen) l
          | false=>(k,some z) :: chg H (k :: seen) l
        | none=>(k,some z) :: chg H (k :: seen) l
      | none=>(k,none) :: chg H (k :: seen) l
theorem a8p {H R:Hp} (hR:∀ t y, lk H t = some y -> lk R t = some y):∀ {l:Hp} {seen:List Nat} {t:Nat}, t ∉ seen -> lk (chg H seen l ++ R) t = if t ∈ l.map (·.1) then lk l t else lk R t
 | [],seen,t,h=>by simp [chg]
 | (k, x) :: l, seen, t, h=>by
  have rest:t ≠ k -> lk (chg H (k :: seen) l ++ R) t = if t ∈ ((k, x) :: l).map (·.1) then lk ((k, x) :: l) t else lk R t:=by
   intro hne
   rw [a8p hR (fun hh=>by rcases List.mem_cons.1 hh with e | e; exact hne e; exact h e)]
   simp only [map_cons,mem_cons,hne,false_or]
   rw [aac,if_neg hne]
  have head:lk ((k, x) :: (chg H (k :: seen) l ++ R)) t = if t ∈ ((k, x) :: l).map (·.1) then lk ((k, x) :: l) t else lk R t:=by
   rw [aac]
   by_cases e:t = k
   ·rw [if_pos e,aac,if_pos e]; simp [e]
   ·rw [if_neg e,rest e]
  unfold chg
  split
  ·rename_i hm
   have hne:t ≠ k:=fun e=>h (by rw [e]; exact aiw.1 hm)
   rw [a8p hR h]
   simp only [map_cons,mem_cons,hne,false_or]
   rw [aac,if_neg hne]
  ·split
   ·rename_i z
    split
    ·rename_i y hy
     split
     ·rename_i he
      by_cases e:t = k
      ·rw [chg_none (by rw [e]; exact mem_cons_self ..), e, hR k y hy, bdd he]
       simp [aac]
      ·exact rest e
     ·exact head
    ·exact head
   ·exact head
where
 chg_none {H R:Hp}:∀ {l:Hp} {seen:List Nat} {t:Nat}, t ∈ seen -> lk (chg H seen l ++ R) t = lk R t
  | [],seen,t,h=>rfl
  | (k, x) :: l, seen, t, h=>by
   unfold chg
   split
   ·exact chg_none h
   ·rename_i hm
    have hne:t ≠ k:=fun e=>by rw [e] at h; rw [aiw.2 h] at hm; cases hm
    have ih:=chg_none (H:=H) (R:=R) (l:=l) (mem_cons_of_mem k h)
    split
    ·split
     ·split
      ·exact ih
      ·show lk (_ :: (_ ++ R)) t = _
       rw [aac,if_neg hne]; exact ih
     ·show lk (_ :: (_ ++ R)) t = _
      rw [aac,if_neg hne]; exact ih
    ·show lk (_ :: (_ ++ R)) t = _
     rw [aac,if_neg hne]; exact ih
theorem atv {H:Hp}:∀ {l:Hp} {seen:List Nat} {k:Nat}, k ∈ l.map (·.1) -> k ∉ seen -> k ∈ (chg H seen l).map (·.1) \/ ∃ y, lk H k = some y
 | [],seen,k,h,_=>by simp at h
 | (k', x) :: l, seen, k, h, hs=>by
  unfold chg
  by_cases e:k = k'
  ·subst e
   have hm:a3z k seen = false:=by
    cases hq:a3z k seen with
    | true=>exact absurd (aiw.1 hq) hs
    | false=>rfl
   simp only [hm]
   split
   ·split
    ·rename_i y hy
     split
     ·exact .inr ⟨y,hy⟩
     ·exact .inl (by simp)
    ·exact .inl (by simp)
   ·exact .inl (by simp)
  ·have h' : k ∈ l.map (·.1) := by simpa [e] using h
   have hs':k ∉ k' :: seen:=fun hh=>by rcases List.mem_cons.1 hh with e' | e'; exact e e'; exact hs e'
   have ih1:=atv (H:=H) h' hs
   have ih2:=atv (H:=H) h' hs'
   split
   ·exact ih1
   ·split
    ·split
     ·split
      ·exact ih2
      ·rcases ih2 with h | h
       ·exact .inl (mem_cons_of_mem _ h)
       ·exact .inr h
     ·rcases ih2 with h | h
      ·exact .inl (mem_cons_of_mem _ h)
      ·exact .inr h
    ·rcases ih2 with h | h
     ·exact .inl (mem_cons_of_mem _ h)
     ·exact .inr h
theorem ajf {R:Array Oper} {s:AS} {o:Oper} {x:Option AV} {H U:Hp} {rt:List Nat} (hH:∀ k z, lk H k = some z -> s.blk k = some z) (h:Step P N R s o ⟨x, U, rt, H.map (·.1)⟩) :
  Step P N R s o ⟨x,chg H [] U,rt,H.map (·.1)⟩:=by
 refine ⟨fun s' hag hnew C m a w Q next hC hr hnext=>?_⟩
 have hH':∀ k z,lk H k = some z -> lk s'.hp k = some z:=fun k z hz=>(hag.2 k (aa6 hz)).trans (hH k z hz)
 refine h.run s' hag (fun k hk=>?_) C m a w Q next hC hr (fun m' a' w' hr'=>hnext m' a' w' ?_)
 ·rcases atv (H := H) hk (seen := []) (by simp) with h1 | ⟨y, hy⟩
  ·exact hnew k h1
  ·exact .inl (aa6 hy)
 ·refine RelM.congr (s:=s'.app o.dst ⟨x, U, rt, H.map (·.1)⟩) (fun t=>rfl) (fun k=>?_) hr'
  simp only [AS.blk,AS.app]
  rw [a8p hH' (by simp),ac6]
variable [Inhabited (Tys P)]
def br1 (P:Program) [Inhabited (Tys P)] (s:AS) (d:Nat) (x y:Operand) (T:TypeId):OR:=match rdC s y with
  | some (.lst sz xs)=>match aij P T with
    | some ti=>match ti.k with
      | .slice E=>match aij P E with
        | some te=>match Nat.beq te.size sz && (Nat.beq te.zero.length te.size && Nat.blt 0 te.size && Nat.blt 0 te.bytes) with
          | true=>match rdC s x with
            | some (.ms k sz' off len)=>match s.blk k with
              | some (.row sz2 es)=>match Nat.beq sz' sz && Nat.beq off 0 && Nat.beq sz2 sz && Nat.beq len es.length && Nat.ble ((len + xs.length) * te.bytes) 140737488355328 with
                | true=>match Nat.beq d k with
                  | true=>.no
                  | false=>match frc (es ++ xs) with
                    | some l=>wN (len + xs.length) fun n=>.ok ⟨some (.ms d sz 0 n),[(d,some (.row sz l)),(k,none)],aal x ++ aal y,[k]⟩
                    | none=>.no
                | false=>.no
              | _=>.no
            | some (.v (.slice a0 0 0))=>match Nat.ble ((0 + xs.length) * te.bytes) 140737488355328 with
              | true=>match Nat.beq d 299 with
                | true=>.no
                | false=>match frc ([] ++ xs) with
                  | some l=>wN (0 + xs.length) fun n=>.ok ⟨some (.ms d sz 0 n),[(d,some (.row sz l)),(299,none)],aal x ++ aal y,[]⟩
                  | none=>.no
              | false=>.no
            | _=>.no
          | false=>.no
        | none=>.no
      | _=>.no
    | none=>.no
  | some (.ms k _ _ _)=>.need k
  | _=>.no
theorem bki {s:AS} {R:Array Oper} {d:Nat} {x y:Operand} {T t:TypeId} {u:Out} {pos:String} {after:Array Edge} (h:br1 P s d x y T = .ok u) (hN:Nat.blt d N = true) :
  Step P N R s ⟨some d,.call ⟨.builtin .append,#[x,y],#[T,T]⟩,t,pos,after,none⟩ u:=by
 unfold br1 at h
 split at h
 ·rename_i sz xs hy
  split at h
  ·rename_i ti hT
   split at h
   ·rename_i E hk
    split at h
    ·rename_i te hE
     split at h
     ·rename_i hc
      simp only [and_eq_true] at hc
      have hsz:=eq_of_beq_eq_true hc.1
      have hz0:(Nat.beq te.zero.length te.size && Nat.blt 0 te.size && Nat.blt 0 te.bytes) = true:=by simp only [and_eq_true]; exact hc.2
      split at h
      ·rename_i k sz' off len hx
       split at h
       ·rename_i sz2 es hb
        split at h
        ·rename_i hg
         simp only [and_eq_true,Nat.ble_eq] at hg
         obtain ⟨⟨⟨⟨g1,g2⟩,g3⟩,g4⟩,g5⟩:=hg
         cases eq_of_beq_eq_true g1
         cases eq_of_beq_eq_true g2
         cases eq_of_beq_eq_true g3
         split at h
         ·cases h
         ·rename_i hdk
          split at h
          ·rename_i l hl
           cases ag1 hl
           rw [avh] at h; cases h
           exact abu (abb hx) hb (eq_of_beq_eq_true g4) (abb hy) (aay hT) hk (aay hE) hsz hz0 g5 hdk hN
          ·cases h
        ·cases h
       ·cases h
      ·rename_i a0 hx
       split at h
       ·rename_i g5
        rw [Nat.ble_eq] at g5
        split at h
        ·cases h
        ·rename_i hdk
         split at h
         ·rename_i l hl
          cases ag1 hl
          rw [avh] at h; cases h
          exact a5k (cap0:=0) (abb hx) (abb hy) (aay hT) hk (aay hE) hsz hz0 g5 hdk hN
         ·cases h
       ·cases h
      ·cases h
     ·cases h
    ·cases h
   ·cases h
  ·cases h
 ·cases h
 ·cases h
def bqm (P:Program) [Inhabited (Tys P)] (s:AS) (T:TypeId) (x y:Operand):OR:=match rdC s x with
  | some (.eptr k sz i off)=>match rdC s y with
    | some v=>match v.nm with
      | k' :: _=>.need k'
      | []=>match s.blk k with
        | some (.row sz' es)=>match es[i]? with
          | some e=>match aij P T with
            | some ti=>match Nat.beq sz sz' && v.ok && Nat.beq v.cells.length ti.size && Nat.ble (off + ti.size) e.cells.length with
              | true=>match e with
                | .agg cs=>match frc (over cs off v.cells) with
                  | some l=>match frc (es.set i (.agg l)) with
                    | some es'=>.ok ⟨none,[(k,some (.row sz es'))],aal x ++ aal y,[k]⟩
                    | none=>.no
                  | none=>.no
                | e=>match Nat.beq off 0 && Nat.beq v.cells.length 1 with
                  | true=>match frc (es.set i v) with
                    | some es'=>.ok ⟨none,[(k,some (.row sz es'))],aal x ++ aal y,[k]⟩
                    | none=>.no
                  | false=>.no
              | false=>.no
            | none=>.no
          | none=>.no
        | _=>.no
    | none=>.no
  | _=>.no
theorem a38 {e:AV} (h:∀ cs, e ≠ .agg cs):e.cells = [e]:=by
 cases e <;> first | rfl | exact absurd rfl (h _)
theorem bh6 {s:AS} {R:Array Oper} {x y:Operand} {T t:TypeId} {u:Out} {pos:String} {after:Array Edge} (h:bqm P s T x y = .ok u) :
  Step P N R s ⟨none,.store T x y,t,pos,after,none⟩ u:=by
 unfold bqm at h
 split at h
 ·rename_i k sz i off hx
  split at h
  ·rename_i v hy
   split at h
   ·cases h
   ·rename_i hnm
    split at h
    ·rename_i sz' es hb
     split at h
     ·rename_i e he
      split at h
      ·rename_i ti hT
       split at h
       ·rename_i hc
        simp only [and_eq_true] at hc
        obtain ⟨⟨⟨c1,c2⟩,c3⟩,c4⟩:=hc
        cases eq_of_beq_eq_true c1
        split at h
        ·rename_i cs
         split at h
         ·rename_i l hl
          split at h
          ·rename_i es' hes
           cases h
           cases ag1 hl
           cases ag1 hes
           exact au5 (abb hx) hb he (abb hy) c2 hnm (aay hT) c3 c4 rfl
          ·cases h
         ·cases h
        ·rename_i hne
         split at h
         ·rename_i hg
          simp only [and_eq_true] at hg
          split at h
          ·rename_i es' hes
           cases h
           cases ag1 hes
           cases eq_of_beq_eq_true hg.1
           refine au5 (abb hx) hb he (abb hy) c2 hnm (aay hT) c3 c4 ?_
           rw [a38 hne]
           have:=eq_of_beq_eq_true hg.2
           simp [over,this]
          ·cases h
         ·cases h
       ·cases h
      ·cases h
     ·cases h
    ·cases h
  ·cases h
 ·cases h
def mkS (P:Program) [Inhabited (Tys P)] (d:Nat) (T:TypeId) (n:Int) (rt:List Nat):OR:=match aij P T with
  | some ti=>match ti.k with
    | .slice E=>match aij P E with
      | some te=>match te.zero.all Value.oneCell' && (Nat.beq te.zero.length te.size && Nat.blt 0 te.size && Nat.blt 0 te.bytes && (te.ag || Nat.beq te.size 1)) with
        | true=>match n with
          | .ofNat n=>match Nat.ble (n * te.bytes) 281474976710656 with
            | true=>match frc (List.replicate n (mkT te.ag (te.zero.map .v))) with
              | some l=>.ok ⟨some (.ms d te.size 0 n),[(d,some (.row te.size l))],rt,[]⟩
              | none=>.no
            | false=>.no
          | .negSucc _=>.no
        | false=>.no
      | none=>.no
    | _=>.no
  | none=>.no
theorem bmv {s:AS} {R:Array Oper} {d:Nat} {x:Operand} {T t:TypeId} {n:Int} {u:Out} {pos:String} {after:Array Edge} (hx:Ev s x (.v (.int .i64 n))) (h:mkS P d T n (aal x) = .ok u) (hN:Nat.blt d N = true) :
  Step P N R s ⟨some d,.makeSlice T x x,t,pos,after,none⟩ u:=by
 unfold mkS at h
 split at h
 ·rename_i ti hT
  split at h
  ·rename_i E hk
   split at h
   ·rename_i te hE
    split at h
    ·rename_i hc
     rw [and_eq_true] at hc
     split at h
     ·rename_i n
      split at h
      ·rename_i hb
       rw [Nat.ble_eq] at hb
       split at h
       ·rename_i l hl
        cases h
        cases ag1 hl
        exact agv (n:=Int.ofNat n) hx (aay hT) hk (aay hE) hc.1 hc.2 (Int.natCast_nonneg _) (by simp only [Int.ofNat_eq_natCast]; omega) hN
       ·cases h
      ·cases h
     ·cases h
    ·cases h
   ·cases h
  ·cases h
 ·cases h
theorem bjg {P:Program} {N:Nat} {s:AS} {R:Array Oper} {d f:Nat} {g:Operand} {args:Array Operand} {ts:Array TypeId} {xs:List AV} {H H':Hp} {r:AV} {t:TypeId} {pos:String} {after:Array Edge}
  (hg:Ev s g (.v (.func (.func f) #[] #[]))) (hcon:Con P f xs H r H') (ha:EvL s args.toList xs) (hH:∀ k z,lk H k = some z -> s.blk k = some z) (hok:act s H H' r = true) (hN:Nat.blt d N = true) :
  Step P N R s ⟨some d,.call ⟨.value g,args,ts⟩,t,pos,after,none⟩ ⟨some r,H' ++ ajj H,aal g ++ rtL args.toList,H.map (·.1)⟩ :=
 ajv rfl (fun d' h => by cases h; exact ⟨hN, rfl⟩) hcon hH hok fun s' hag C m a w hr => by
  have hag':ac1 s s' ⟨none,[],aal g ++ rtL args.toList,[]⟩:=⟨hag,fun k hk=>by cases hk⟩
  have ha':=ha.agree hag' (fun _ h=>List.mem_append.2 (.inr h))
  have hgr:=(hg.agree hag' (fun _ h=>List.mem_append.2 (.inl h))).rep hr
  generalize hv:a.eval g = u at hgr
  cases hgr
  refine ⟨args.map a.eval,ass (caps:=#[]) rfl hv hcon.ok (by simp),?_,?_⟩
  ·have:=ha'.length; simpa using this
  ·intro j v x hv hx; exact ha'.rep hr j v x (by simpa using hv) hx
def bi9:Operand -> Operand -> Bool
  | .tmp a,.tmp b=>Nat.beq a b
  | .const (.int k a),.const (.int k' b)=>Nat.beq (ikn k) (ikn k') && aaa .eql a b
  | _,_=>false
theorem bes {x y:Operand} (h:bi9 x y = true):y = x:=by
 unfold bi9 at h
 split at h
 ·rw [eq_of_beq_eq_true h]
 ·rename_i k a k' b
  simp only [and_eq_true] at h
  rw [ah9 h.1,eq_of_beq (show (a == b) = true from h.2)]
 ·cases h
def opD (E:Env P) (F:ain) (av:List Nat) (s:AS) (d:Nat) (op:Op):OR:=match op with
  | .call c=>match c with
    | ⟨.value g, args, ts⟩=>match bku s args.toList with
      | some xs=>match g with
        | .func f=>match ay1 E F s av f xs with
          | .ok H r H'=>match act s H H' r with
            | true=>.ok ⟨some r,chg H [] (H' ++ ajj H),rtL args.toList,H.map (·.1)⟩
            | false=>.no
          | .need k=>.need k
          | .no=>.no
        | g=>match rdC s g with
          | some (.fn f caps)=>match ay1 E F s av f (xs ++ caps) with
            | .ok H r H'=>match act s H H' r with
              | true=>.ok ⟨some r,chg H [] (H' ++ ajj H),aal g ++ rtL args.toList,H.map (·.1)⟩
              | false=>.no
            | .need k=>.need k
            | .no=>.no
          | some (.v (.func (.func f) ⟨[]⟩ ⟨[]⟩))=>match ay1 E F s av f xs with
            | .ok H r H'=>match act s H H' r with
              | true=>.ok ⟨some r,chg H [] (H' ++ ajj H),aal g ++ rtL args.toList,H.map (·.1)⟩
              | false=>.no
            | .need k=>.need k
            | .no=>.no
          | some (.cl f pre caps)=>match ay1 E F s av f (pre ++ xs ++ caps) with
            | .ok H r H'=>match act s H H' r with
              | true=>.ok ⟨some r,chg H [] (H' ++ ajj H),aal g ++ rtL args.toList,H.map (·.1)⟩
              | false=>.no
            | .need k=>.need k
            | .no=>.no
          | _=>.no
      | none=>.no
    | ⟨.builtin .append, args, ts⟩=>match args.toList with
      | [x, y]=>match ts.toList with
        | [T, T']=>match Nat.beq T T' with
          | true=>br1 P s d x y T
          | false=>.no
        | _=>.no
      | _=>.no
    | c=>match opV P s (.call c) with
      | some r=>.ok ⟨some r.x,[],r.rt,r.rd⟩
      | none=>.no
  | .makeSlice T x y=>match bi9 x y with
    | true=>match rdC s x with
      | some (.v (.int .i64 n))=>mkS P d T n (aal x)
      | _=>.no
    | false=>.no
  | .slice T x none (some (.const (.int k1 (.ofNat 0)))) (some (.const (.int k2 (.ofNat 0))))=>match rdC s x with
    | some (.lst sz es)=>match bih P T sz with
      | true=>.ok ⟨some (.ms d sz 0 0),[(d,some (.row sz []))],aal x,[]⟩
      | false=>.no
    | _=>.no
  | .buildSlice T n parts=>match n with
    | 0=>match parts.toList with
      | []=>match aij P T with
        | some ti=>match ti.k with
          | .slice E=>match aij P E with
            | some te=>match te.zero.all Value.oneCell' && Nat.beq te.zero.length te.size with
              | true=>.ok ⟨some (.ms d te.size 0 0),[(d,some (.row te.size []))],[],[]⟩
              | false=>.no
            | none=>.no
          | _=>.no
        | none=>.no
      | _=>.no
    | n + 1=>match opV P s (.buildSlice T (n + 1) parts) with
      | some r=>.ok ⟨some r.x,[],r.rt,r.rd⟩
      | none=>match bku s (parts.toList.map (·.2)) with
        | some xs=>match AV.nms xs with
          | k :: _=>.need k
          | []=>.no
        | none=>.no
  | op=>match opV P s op with
    | some r=>.ok ⟨some r.x,[],r.rt,r.rd⟩
    | none=>match bpi P s d op with
      | some r=>match r.2 with
        | []=>.ok r.1
        | _=>.no
      | none=>.no
theorem bfm {E:Env P} {F:ain} (hF:F.Ok P) {av:List Nat} {s:AS} {R:Array Oper} {d:Nat} {op:Op} {u:Out} {t:TypeId} {pos:String} {after:Array Edge} (h:opD E F av s d op = .ok u) (hN:Nat.blt d N = true) :
  Step P N R s ⟨some d,op,t,pos,after,none⟩ u:=by
 unfold opD at h
 split at h
 ·split at h
  ·rename_i g args ts
   split at h
   ·rename_i xs hxs
    split at h
    ·rename_i f
     split at h
     ·rename_i H r H' hc
      split at h
      ·rename_i hok
       cases h
       obtain ⟨h1,h2⟩:=amu hF hc
       exact ajf h2 (aad h1 (ank hxs) h2 hok hN)
      ·cases h
     ·cases h
     ·cases h
    ·split at h
     ·rename_i f caps hg
      split at h
      ·rename_i H r H' hc
       split at h
       ·rename_i hok
        cases h
        obtain ⟨h1,h2⟩:=amu hF hc
        exact ajf h2 (aqf (abb hg) h1 (ank hxs) h2 hok hN)
       ·cases h
      ·cases h
      ·cases h
     ·rename_i f hg
      split at h
      ·rename_i H r H' hc
       split at h
       ·rename_i hok
        cases h
        obtain ⟨h1,h2⟩:=amu hF hc
        exact ajf h2 (bjg (abb hg) h1 (ank hxs) h2 hok hN)
       ·cases h
      ·cases h
      ·cases h
     ·rename_i f pre caps hg
      split at h
      ·rename_i H r H' hc
       split at h
       ·rename_i hok
        cases h
        obtain ⟨h1,h2⟩:=amu hF hc
        exact ajf h2 (a6v (abb hg) h1 (ank hxs) h2 hok hN)
       ·cases h
      ·cases h
      ·cases h
     ·cases h
   ·cases h
  ·rename_i args ts
   split at h
   ·rename_i x y hx
    split at h
    ·rename_i T T' hT
     split at h
     ·rename_i hTT
      cases eq_of_beq_eq_true hTT
      have e1:args = #[x,y]:=by apply Array.toList_inj.1; simpa using hx
      have e2:ts = #[T,T]:=by apply Array.toList_inj.1; simpa using hT
      subst e1; subst e2
      exact bki h hN
     ·cases h
    ·cases h
   ·cases h
  ·split at h
   ·rename_i h1; cases h; exact a93 h1 hN
   ·cases h
 ·split at h
  ·rename_i he
   cases bes he
   split at h
   ·rename_i hx; exact bmv (abb hx) h hN
   ·cases h
  ·cases h
 ·split at h
  ·rename_i hx
   split at h
   ·rename_i hs
    obtain ⟨ti,E,te,h1,h2,h3,h4⟩:=arl hs
    cases h
    exact a61 (abb hx) h1 h2 h3 h4 hN
   ·cases h
  ·cases h
 ·rename_i T n parts
  split at h
  ·split at h
   ·rename_i hp
    have:parts = #[]:=by apply Array.toList_inj.1; simpa using hp
    subst this
    split at h
    ·rename_i ti hT
     split at h
     ·rename_i E hk
      split at h
      ·rename_i te hE
       split at h
       ·rename_i hc
        rw [and_eq_true] at hc
        cases h
        exact acw (aay hT) hk (aay hE) hc.1 hc.2 hN
       ·cases h
      ·cases h
     ·cases h
    ·cases h
   ·cases h
  ·split at h
   ·rename_i h1; cases h; exact a93 h1 hN
   ·split at h
    ·split at h <;> cases h
    ·cases h
 ·split at h
  ·rename_i h1; cases h; exact a93 h1 hN
  ·split at h
   ·rename_i h1
    split at h
    ·rename_i ho; cases h; exact a9c h1 (by rw [ho]; exact .nil) hN
    ·cases h
   ·cases h
def opN (E:Env P) (F:ain) (av:List Nat) (s:AS) (op:Op):OR:=match op with
  | .call c=>match c with
    | ⟨.value (.func f), args, ts⟩=>match bku s args.toList with
      | some xs=>match ay1 E F s av f xs with
        | .ok H r H'=>match act s H H' r with
          | true=>.ok ⟨none,chg H [] (H' ++ ajj H),rtL args.toList,H.map (·.1)⟩
          | false=>.no
        | .need k=>.need k
        | .no=>.no
      | none=>.no
    | _=>.no
  | .store T x y=>match bpm P s (.store T x y) with
    | some r=>match r.2 with
      | []=>.ok r.1
      | _=>.no
    | none=>bqm P s T x y
  | _=>.no
theorem blq {E:Env P} {F:ain} (hF:F.Ok P) {av:List Nat} {s:AS} {R:Array Oper} {op:Op} {u:Out} {t:TypeId} {pos:String} {after:Array Edge} (h:opN E F av s op = .ok u) :
  Step P N R s ⟨none,op,t,pos,after,none⟩ u:=by
 unfold opN at h
 split at h
 ·split at h
  ·rename_i f args ts
   split at h
   ·rename_i xs hxs
    split at h
    ·rename_i H r H' hc
     split at h
     ·rename_i hok
      cases h
      obtain ⟨h1,h2⟩:=amu hF hc
      exact ajf h2 (bex h1 (ank hxs) h2 hok)
     ·cases h
    ·cases h
    ·cases h
   ·cases h
  ·cases h
 ·split at h
  ·rename_i h1
   split at h
   ·rename_i ho; cases h; exact a8r h1 (by rw [ho]; exact .nil)
   ·cases h
  ·exact bh6 h
 ·cases h
theorem Step.sub {P:Program} {N:Nat} {R:Array Oper} {s:AS} {o:Oper} {x y:AV} {upd:Hp} {rt rd:List Nat} (h:Step P N R s o ⟨some x, upd, rt, rd⟩) (hs:Sub x y):Step P N R s o ⟨some y, upd, rt, rd⟩:=by
 refine ⟨fun s' hag hnew C m a w Q next hC hr hnext=>h.run s' hag hnew C m a w Q next hC hr (fun m' a' w' hr'=>hnext m' a' w' ?_)⟩
 refine hr'.weak (fun t z hz=>?_) (fun k z hz=>⟨z,hz,.refl _⟩)
 rw [ac9] at hz
 split at hz
 ·rename_i ht; cases hz; exact ⟨x,by rw [ac9,if_pos ht],hs⟩
 ·rename_i ht; exact ⟨z,by rw [ac9,if_neg ht]; exact hz,.refl _⟩
theorem Sub.opt_true (x:AV):Sub (.opt true x) x:=fun g S m v h=>by cases h with | opt h _=>exact h rfl
theorem ana (f:AV -> AV) (k:Nat):∀ l:Hp, (agz f k l).map (·.1) = l.map (·.1)
 | []=>rfl
 | (k',x) :: l=>by simp only [agz,map_cons,ana f k l]
theorem a5v {P:Program} {N:Nat} {R:Array Oper} {s:AS} {o:Oper} {d:Nat} {x:AV} {upd:Hp} {rt rd:List Nat} {k sz:Nat} {es:List AV} (hd:o.dst = some d) (hk:lk upd k = some (.row sz es)) (hrd:k ∉ rd)
  (h:Step P N R s o ⟨some x,upd,rt,rd⟩):Step P N R s o ⟨some (x.fz k sz es),agz (AV.fz k sz es) k upd,rt,rd⟩:=by
 refine ⟨fun s' hag hnew C m a w Q next hC hr hnext=>?_⟩
 have hnew':alt s' ⟨some x,upd,rt,rd⟩:=fun k' hk'=>hnew k' (by rw [ana]; exact hk')
 have hfr:s'.Fresh k:=by
  rcases hnew' k (aa6 hk) with h | h
  ·exact absurd h hrd
  ·exact h
 refine h.run s' hag hnew' C m a w Q next hC hr (fun m' a' w' hr'=>?_)
 rw [hd] at hr'
 have hkk:(s'.app (some d) ⟨some x, upd, rt, rd⟩).blk k = some (.row sz es):=by
  show lk (upd ++ s'.hp) k = _
  rw [ac6,if_pos (aa6 hk),hk]
 obtain ⟨m2,hr2⟩:=Wk.freeze hkk C m' a' w' hr'
 refine hnext m2 a' w' ?_
 rw [hd]
 refine hr2.congr ?_ ?_
 ·intro t
  simp only [AS.get,aih,AS.app,aac]
  split
  ·rfl
  ·cases hx:lk s'.sl t with
   | none=>rfl
   | some y=>simp only [Option.map_some]; rw [AV.fz_id _ _ _ _ (hfr.2.2.1 t y hx)]
 ·intro k'
  simp only [AS.blk,AS.app]
  rw [afl,ac6,ac6,ana,afl]
  by_cases h1:k' = k
  ·subst h1
   rw [if_pos rfl,if_pos (aa6 hk),if_pos rfl]
  ·rw [if_neg h1, if_neg h1]
   split
   ·rfl
   ·cases hx:lk s'.hp k' with
    | none=>rfl
    | some y=>simp only [Option.map_some]; rw [asd (hfr.2.2.2 k' y hx)]
def bj8:List Nat -> Out -> Out
  | [],u=>u
  | k :: ks, u=>match u.val with
    | some x=>match lk u.upd k with
      | some (.row sz es)=>match a3z k u.rd with
        | false=>bj8 ks ⟨some (x.fz k sz es),agz (AV.fz k sz es) k u.upd,u.rt,u.rd⟩
        | true=>bj8 ks u
      | _=>bj8 ks u
    | none=>u
theorem arb {P:Program} {N:Nat} {R:Array Oper} {s:AS} {o:Oper} {d:Nat} (hd:o.dst = some d):∀ {ks:List Nat} {u:Out}, Step P N R s o u -> Step P N R s o (bj8 ks u)
 | [],u,h=>h
 | k :: ks, u, h=>by
  unfold bj8
  split
  ·rename_i x hx
   split
   ·rename_i sz es hk
    split
    ·rename_i hm
     refine arb hd ?_
     obtain ⟨val,upd,rt,rd⟩:=u
     simp only at hx hk hm
     subst hx
     exact a5v hd hk (fun hh=>by rw [aiw.2 hh] at hm; cases hm) h
    ·exact arb hd h
   ·exact arb hd h
  ·exact h
def opE (E:Env P) (F:ain) (av fz:List Nat) (N:Nat) (R:List Oper) (s:AS) (o:Oper):OR:=match o.guard with
  | none=>match o.dst with
    | some d=>match Nat.blt d N with
      | true=>match opD E F av s d o.op with
        | .ok u=>.ok (bj8 fz u)
        | r=>r
      | false=>.no
    | none=>opN E F av s o.op
  | some (j, want)=>match R[j]? with
    | some og=>match og.dst with
      | some g=>match o.dst with
        | some d=>match Nat.blt d N with
          | true=>match s.get g with
            | some (.v (.bool b))=>match b == want with
              | true=>match opD E F av s d o.op with
                | .ok u=>match (bj8 fz u) with
                  | ⟨some x,upd,rt,rd⟩=>.ok ⟨some x,upd,g :: rt,rd⟩
                  | ⟨none,_,_,_⟩=>.no
                | r=>r
              | false=>.ok ⟨some (.opt false (.v (.bool false))),[],[g],[]⟩
            | some (.opt false (.v (.bool b)))=>.ok ⟨some (.opt false (.v (.bool false))),[],[g],[]⟩
            | _=>.no
          | false=>.no
        | none=>.no
      | none=>.no
    | none=>.no
theorem bon {E:Env P} {F:ain} (hF:F.Ok P) {av fz:List Nat} {R:List Oper} {s:AS} {o:Oper} {u:Out} (h:opE E F av fz N R s o = .ok u):Step P N R.toArray s o u:=by
 obtain ⟨dst,op,ty,pos,after,guard⟩:=o
 unfold opE at h
 simp only at h
 split at h
 ·split at h
  ·split at h
   ·rename_i hN
    split at h
    ·rename_i u' h1; cases h; exact arb rfl (bfm hF h1 hN)
    ·rename_i hno; exact absurd h (hno u)
   ·cases h
  ·exact blq hF h
 ·rename_i j want
  split at h
  ·rename_i og hog
   split at h
   ·rename_i g hg
    split at h
    ·rename_i d
     split at h
     ·rename_i hN
      have hj:(R.toArray[j]?).bind (·.dst) = some g:=by simp [hog,hg]
      split at h
      ·rename_i b hb
       split at h
       ·rename_i hw
        split at h
        ·rename_i u' h1
         have hs:=arb (ks:=fz) rfl (bfm (R:=R.toArray) (t:=ty) (pos:=pos) (after:=after) hF h1 hN)
         split at h
         ·rename_i x upd rt rd hx
          cases h
          rw [hx] at hs
          have h2:=a01 (want:=want) hj hb hN (fun hne=>absurd (eq_of_beq hw) hne) (fun _=>hs)
          rw [hw] at h2
          exact h2.sub (.opt_true x)
         ·cases h
        ·rename_i hno; exact absurd h (hno u)
       ·rename_i hw
        cases h
        have h2:=acd (P:=P) (op:=op) (t:=ty) (pos:=pos) (after:=after) (want:=want) (x:=.v (.bool false)) (rt:=[]) (rd:=[]) hj hb hN (fun e=>by rw [e] at hw; simp at hw)
        rw [hw] at h2
        exact h2
      ·rename_i b hb
       cases h
       exact air (P:=P) (op:=op) (t:=ty) (pos:=pos) (after:=after) (want:=want) (x:=.v (.bool false)) (rt:=[]) (rd:=[]) hj hb hN (fun e=>by cases e)
      ·cases h
     ·cases h
    ·cases h
   ·cases h
  ·cases h
end Go.Lw
namespace Go.Lw
variable {P:Program} {N:Nat} [Inhabited (Tys P)]
theorem a8e {P:Program} {N:Nat} {c:Code} {Q Q':Exit -> AS -> Prop} {s:AS} (h:AWP P N c Q s) (hq:∀ e s, Q e s -> ∃ s', Wk s s' /\ Q' e s'):AWP P N c Q' s :=
 fun C m a w n hN hr=>wpIn_mono (h C m a w n hN hr) fun e _ _ ⟨s', m', hQ, hr'⟩=>by
  obtain ⟨s2,hw,hQ'⟩:=hq e s' hQ
  obtain ⟨m2,hr2⟩:=hw C m' _ _ hr'
  exact ⟨s2,m2,hQ',hr2⟩
def dd {α:Type}:List Nat -> List (Nat × Option α) -> List (Nat × Option α)
  | _,[]=>[]
  | seen, (t, x) :: l=>match a3z t seen with
    | true=>dd seen l
    | false=>match x with
      | some v=>(t,some v) :: dd (t :: seen) l
      | none=>dd (t :: seen) l
theorem a8w {α:Type}:∀ {l:List (Nat × Option α)} {seen:List Nat} {t:Nat} {x:α}, lk (dd seen l) t = some x -> t ∉ seen /\ lk l t = some x
 | [],seen,t,x,h=>by cases h
 | (t', y) :: l, seen, t, x, h=>by
  unfold dd at h
  rw [aac]
  split at h
  ·rename_i hm
   obtain ⟨h1,h2⟩:=a8w h
   refine ⟨h1,?_⟩
   rw [if_neg (fun (e:t = t')=>h1 (by rw [e]; exact aiw.1 hm))]; exact h2
  ·rename_i hm
   have hm':t' ∉ seen:=fun hh=>by rw [aiw.2 hh] at hm; cases hm
   split at h
   ·rw [aac] at h
    split at h
    ·rename_i e; cases h; subst e; exact ⟨hm',by rw [if_pos rfl]⟩
    ·rename_i e
     obtain ⟨h1,h2⟩:=a8w h
     rw [if_neg e]
     exact ⟨fun hh=>h1 (mem_cons_of_mem _ hh),h2⟩
   ·obtain ⟨h1, h2⟩:=a8w h
    have hne:t ≠ t':=fun e=>h1 (by rw [e]; exact mem_cons_self ..)
    rw [if_neg hne]
    exact ⟨fun hh=>h1 (mem_cons_of_mem _ hh),h2⟩
theorem ayr {s:AS} {sl:abq} {hp:Hp} (h1:∀ t x, lk sl t = some x -> lk s.sl t = some x) (h2:∀ k x, lk hp k = some x -> lk s.hp k = some x):Wk s ⟨sl, hp⟩ :=
 fun C m a w hr=>⟨m,hr.weak (fun t x hx=>⟨x,h1 t x hx,.refl _⟩) (fun k x hx=>⟨x,h2 k x hx,.refl _⟩)⟩
def ddS (s:AS):AS:=⟨dd [] s.sl,dd [] s.hp⟩
theorem brm (s:AS):Wk s (ddS s):=ayr (fun t x h=>(a8w h).2) (fun t x h=>(a8w h).2)
def noK (k:Nat):List Nat -> abq -> abq
  | _,[]=>[]
  | seen, (t, x) :: l=>match a3z t seen with
    | true=>noK k seen l
    | false=>match x with
      | some v=>match a3z k v.nm with
        | true=>noK k (t :: seen) l
        | false=>(t,some v) :: noK k (t :: seen) l
      | none=>noK k (t :: seen) l
theorem a2c {k:Nat}:∀ {l:abq} {seen:List Nat} {t:Nat} {x:AV}, lk (noK k seen l) t = some x -> t ∉ seen /\ lk l t = some x
 | [],seen,t,x,h=>by cases h
 | (t', y) :: l, seen, t, x, h=>by
  unfold noK at h
  rw [aac]
  have rest:∀ {l':abq}, lk (noK k (t' :: seen) l) t = some x -> t ∉ seen /\ (if t = t' then y else lk l t) = some x:=by
   intro _ h
   obtain ⟨h1,h2⟩:=a2c h
   rw [if_neg (fun (e:t = t')=>h1 (by rw [e]; exact mem_cons_self ..))]
   exact ⟨fun hh=>h1 (mem_cons_of_mem _ hh),h2⟩
  split at h
  ·rename_i hm
   obtain ⟨h1,h2⟩:=a2c h
   refine ⟨h1,?_⟩
   rw [if_neg (fun (e:t = t')=>h1 (by rw [e]; exact aiw.1 hm))]; exact h2
  ·rename_i hm
   have hm':t' ∉ seen:=fun hh=>by rw [aiw.2 hh] at hm; cases hm
   split at h
   ·split at h
    ·exact rest (l':=l) h
    ·rw [aac] at h
     split at h
     ·rename_i e; cases h; subst e; exact ⟨hm',by rw [if_pos rfl]⟩
     ·rename_i e
      obtain ⟨h1,h2⟩:=a2c h
      rw [if_neg e]
      exact ⟨fun hh=>h1 (mem_cons_of_mem _ hh),h2⟩
   ·exact rest (l':=l) h
def br9 (s:AS) (k d:Nat) (y:Blk):AS:=⟨alc (AV.rn k d) s.sl,atq k d y s.hp⟩
def br0 (s:AS) (av:List Nat) (d:Nat):Option AS:=match s.freshB d with
  | true=>some s
  | false=>match s.blk d with
    | some y=>match s.freshB (nxt s av) with
      | true=>some (br9 s d (nxt s av) y)
      | false=>none
    | none=>some ⟨noK d [] s.sl,s.hp⟩
theorem bj4 {s s':AS} {av:List Nat} {d:Nat} (h:br0 s av d = some s'):Wk s s':=by
 unfold br0 at h
 split at h
 ·cases h; exact .refl _
 ·split at h
  ·rename_i y hy
   split at h
   ·rename_i hf; cases h; exact Wk.rekey hy hf
   ·cases h
  ·cases h; exact ayr (fun t x h=>(a2c h).2) (fun _ _ h=>h)
def bsj (o:Oper):Option Nat:=match o.dst with
  | some d=>match o.op with
    | .alloc _=>some d
    | .box _ _=>some d
    | .makeSlice _ _ _=>some d
    | .buildSlice _ 0 _=>some d
    | .slice _ _ _ _ (some _)=>some d
    | .call ⟨.builtin .append,_,_⟩=>some d
    | _=>none
  | none=>none
def bol (av:List Nat):List Oper -> AS -> Option AS
  | [],s=>some s
  | o :: os, s=>match bsj o with
    | some d=>match br0 s av d with
      | some s'=>bol av os s'
      | none=>none
    | none=>bol av os s
theorem azy {av:List Nat}:∀ {os:List Oper} {s s':AS}, bol av os s = some s' -> Wk s s'
 | [],s,s',h=>by cases h; exact .refl _
 | o :: os, s, s', h=>by
  unfold bol at h
  split at h
  ·split at h
   ·rename_i h1; exact (bj4 h1).trans (azy h)
   ·cases h
  ·exact azy h
inductive RR where
  | ok (s:AS) (us:List Out)
  | need (k:Nat)
  | no
def nB {α:Type}:List α -> Bool
  | []=>true
  | _=>false
def bpk (E:Env P) (F:ain) (av fz:List Nat) (N:Nat) (R:List Oper):List Oper -> AS -> List Out -> RR
  | [],s,us=>.ok s us
  | o :: os, s, us=>match opE E F av fz N R s o with
    | .ok u=>match nB u.upd || a9i s u with
      | true=>match s.app o.dst u with
        | ⟨sl,hp⟩=>bpk E F av fz N R os ⟨sl,hp⟩ (us ++ [u])
      | false=>.no
    | .need k=>.need k
    | .no=>.no
theorem a56 {E:Env P} {F:ain} (hF:F.Ok P) {av fz:List Nat} {R:List Oper}:∀ {os:List Oper} {s:AS} {us:List Out} {s':AS} {us':List Out}, bpk E F av fz N R os s us = .ok s' us' ->
  au7 P N R.toArray os s us (fun s2 us2=>s2 = s' /\ us2 = us')
 | [],s,us,s',us',h=>by cases h; exact ⟨rfl,rfl⟩
 | o :: os, s, us, s', us', h=>by
  unfold bpk at h
  split at h
  ·rename_i u hu
   split at h
   ·rename_i hn
    refine ⟨u,bon hF hu,?_,a56 hF h⟩
    cases hu':nB u.upd with
    | true =>
     intro k hk
     have:u.upd = []:=by cases hq:u.upd with | nil=>rfl | cons a b=>rw [hq] at hu'; cases hu'
     rw [this] at hk; cases hk
    | false=>rw [hu'] at hn; exact alr hn
   ·cases h
  ·cases h
  ·cases h
structure Sys where
  code:Nat -> Nat -> List Nat -> Code -> AS -> Option (Exit × AS)
  fn:Nat -> List Nat -> FuncId -> List AV -> Hp -> Option (AV × Hp)
def trF (S:Sys) (base:Nat):ain:=fun av f xs H=>match bsa base (H.map (·.1)) with
  | L=>match S.fn (base + 100) av f (tA L xs) (tH L H) with
    | some (r,H')=>some (rB L r,hB L H')
    | none=>none
def isR (e:Exit):Bool:=match e with
  | .normal=>true
  | _=>false
def bqg (s:AS) (k:Nat):Option AS:=match s.blk k with
  | some (.row sz es)=>some ⟨alc (AV.fz k sz es) s.sl,agz (AV.fz k sz es) k s.hp⟩
  | _=>none
theorem bj2 {s s':AS} {k:Nat} (h:bqg s k = some s'):Wk s s':=by
 unfold bqg at h
 split at h
 ·rename_i hk; cases h; exact Wk.freeze hk
 ·cases h
def bna (E:Env P) (F:ain) (av:List Nat) (N:Nat) (A:List Oper) (d:Bool):Nat -> List Nat -> AS -> Option AS
  | 0,_,_=>none
  | n + 1, fz, s0=>match bpk E F av fz N A A s0 [] with
    | .ok s' us=>match d with
      | false=>some s'
      | true=>match chk A us s0 with
        | true=>some s'
        | false=>none
    | .need k=>match bqg s0 k with
      | some ⟨sl,hp⟩=>bna E F av N A d n fz ⟨sl,hp⟩
      | none=>match a3z k fz with
        | true=>none
        | false=>bna E F av N A d n (k :: fz) s0
    | .no=>none
theorem azc {E:Env P} {F:ain} (hF:F.Ok P) {av:List Nat} {id:Nat} {A:Array Oper} {d:Bool} (hnd:A.toList.all nd = true):∀ {n:Nat} {fz:List Nat} {s s1:AS}, bna E F av N A.toList d n fz s = some s1 ->
  AWP P N (.region id A d) (fun e' s'=>e' = .normal /\ s' = s1) s
 | 0,fz,s,s1,h=>by cases h
 | n + 1, fz, s, s1, h=>by
  unfold bna at h
  split at h
  ·rename_i s' us h1
   refine bac (Q:=fun e' s'=>e' = .normal /\ s' = s1) (k:=[]) hnd (fun _=>(default:Tys P).mix) (al4 ?_ (a56 hF h1))
   rintro s2 us2 ⟨hs,hu⟩
   rw [hs,hu]
   split at h
   ·obtain rfl:=Option.some.inj h
    exact ⟨(fun e=>by cases e),rfl,rfl⟩
   ·split at h
    ·rename_i hc
     obtain rfl:=Option.some.inj h
     exact ⟨fun _=>hc,rfl,rfl⟩
    ·cases h
  ·split at h
   ·rename_i sl hp hf
    exact ae9 (bj2 hf) (azc hF hnd h)
   ·split at h
    ·cases h
    ·exact azc hF hnd h
  ·cases h
def axl (E:Env P) (S:Sys) (N base:Nat) (av:List Nat) (c:Code) (s:AS):Option (Exit × AS):=match c with
  | .skip=>some (.normal,s)
  | .ret=>some (.ret,s)
  | .exit id=>some (.exit id,s)
  | .seq x y=>match S.code N base av x s with
    | some (e, s1)=>match isR e with
      | true=>S.code N base av y s1
      | false=>some (e,s1)
    | none=>none
  | .block id c=>match S.code N base av c s with
    | some (e, s1)=>match e with
      | .exit id'=>match Nat.beq id' id with
        | true=>some (.normal,s1)
        | false=>some (.exit id',s1)
      | e=>some (e,s1)
    | none=>none
  | .cond c x y=>match rdC s c with
    | some (.v (.bool b))=>match b with
      | true=>S.code N base av x s
      | false=>S.code N base av y s
    | _=>none
  | .loop c=>match S.code N base av c s with
    | some (e, s1)=>match isR e with
      | true=>match ddS s1 with
        | ⟨sl,hp⟩=>S.code N base av (.loop c) ⟨sl,hp⟩
      | false=>some (e,s1)
    | none=>none
  | .region id A d=>match baj A.toList with
    | true=>match bol av A.toList s with
      | some s0=>match bna E (trF S base) av N A.toList d 20 [] s0 with
        | some s'=>some (.normal,s')
        | none=>none
      | none=>none
    | false=>none
  | _=>none
def bnv (st:Nat):List Nat -> AS -> Option AS
  | [],s=>some s
  | k :: ks, s=>match s.blk k with
    | some y=>match bg6 s 100 st with
      | d=>match s.freshB d with
        | true=>bnv st ks (br9 s k d y)
        | false=>none
    | none=>none
theorem ayg {st:Nat}:∀ {ks:List Nat} {s s':AS}, bnv st ks s = some s' -> Wk s s'
 | [],s,s',h=>by cases h; exact .refl _
 | k :: ks, s, s', h=>by
  unfold bnv at h
  split at h
  ·rename_i y hy
   simp only at h
   split at h
   ·rename_i hf; exact (Wk.rekey (s:=s) hy hf).trans (ayg h)
   ·cases h
  ·cases h
def cnt:Nat -> List Nat -> List Nat
  | _,[]=>[]
  | n,_ :: l=>n :: cnt (n + 1) l
def loc:List Nat -> List Nat
  | []=>[]
  | k :: ks=>match Nat.blt k 1000 with
    | true=>k :: loc ks
    | false=>loc ks
def bk0 (sl:abq):List Nat -> abq
  | []=>[]
  | t :: ts=>match lk sl t with
    | some x=>(t,some x) :: bk0 sl ts
    | none=>bk0 sl ts
theorem ay3 {sl:abq}:∀ {ts:List Nat} {t:Nat} {x:AV}, lk (bk0 sl ts) t = some x -> lk sl t = some x
 | [],t,x,h=>by cases h
 | t' :: ts, t, x, h=>by
  unfold bk0 at h
  split at h
  ·rename_i y hy
   rw [aac] at h
   split at h
   ·rename_i e; cases h; rw [e]; exact hy
   ·exact ay3 h
  ·exact ay3 h
def rsT:List ResultVar -> List Nat
  | []=>[]
  | r :: rs=>(match r with
    | .tmp t=>t
    | .cell t _=>t) :: rsT rs
def bpl (P:Program) [Inhabited (Tys P)] (rs:List ResultVar) (Hk:List Nat) (s:AS):Option (AV × Hp):=match bfo P s rs with
  | some ys=>some (ali ys,pkH s (a3w s 300 (AV.nms ys ++ Hk) []))
  | none=>none
theorem a59 {rs:List ResultVar} {Hk:List Nat} {s:AS} {r:AV} {H':Hp} (h:bpl P rs Hk s = some (r, H')):∃ xs, ResL P s rs xs /\ Fin s (ali xs) r H':=by
 unfold bpl at h
 split at h
 ·rename_i ys hy
  cases h
  exact ⟨ys,ays hy,.keep (fun k z hz=>aww hz)⟩
 ·cases h
def bqb (P:Program) [Inhabited (Tys P)] (av:List Nat) (rs:List ResultVar) (Hk:List Nat) (s:AS):Option (AV × Hp):=match a3w s 300 (AV.nms ((bk0 s.sl (rsT rs)).filterMap (·.2)) ++ Hk) [] with
  | K=>match loc K with
    | []=>bpl P rs Hk s
    | k :: ks=>match bnv 700 (k :: ks) ⟨bk0 s.sl (rsT rs), pkH s K⟩ with
      | some s2=>match bnv (mx 299 av + 1) (cnt 700 (k :: ks)) s2 with
        | some s3=>bpl P rs Hk s3
        | none=>none
      | none=>none
theorem bkd {av:List Nat} {rs:List ResultVar} {Hk:List Nat} {s:AS} {r:AV} {H':Hp} (h:bqb P av rs Hk s = some (r, H')):∃ s2, Wk s s2 /\ ∃ xs, ResL P s2 rs xs /\ Fin s2 (ali xs) r H':=by
 unfold bqb at h
 simp only at h
 split at h
 ·exact ⟨s,.refl _,a59 h⟩
 ·split at h
  ·rename_i s2 h2
   split at h
   ·rename_i s3 h3
    exact ⟨s3,((ayr (fun t x=>ay3) (fun k x=>aww)).trans (ayg h2)).trans (ayg h3),a59 h⟩
   ·cases h
  ·cases h
def bcq:Hp -> Bool
  | []=>true
  | (k,_) :: l=>Nat.ble 1000 k && bcq l
theorem a0r:∀ {H:Hp} {k:Nat} {z:Blk}, bcq H = true -> lk H k = some z -> 1000 <= k
 | [],k,z,_,h=>by cases h
 | (k', x) :: l, k, z, h0, h=>by
  simp only [bcq,and_eq_true,Nat.ble_eq] at h0
  rw [aac] at h
  split at h
  ·rename_i e; rw [e]; exact h0.1
  ·exact a0r h0.2 h
def fnS (E:Env P) (S:Sys) (base:Nat) (av:List Nat) (f:FuncId) (xs:List AV) (H:Hp):Option (AV × Hp):=match E.fe f with
  | some fe=>match Nat.beq fe.f f && bcq H with
    | true=>match a33 0 xs with
      | some sl=>match S.code fe.fn.ntmps base av fe.c ⟨sl, H⟩ with
        | some (e, s1)=>match a58 e with
          | true=>bqb P av fe.rs (H.map (·.1)) s1
          | false=>none
        | none=>none
      | none=>none
    | false=>none
  | none=>none
def ev (E:Env P) (n:Nat):Sys:=Nat.rec ⟨fun _ _ _ _ _=>none,fun _ _ _ _ _=>none⟩ (fun _ S=>⟨axl E S,fnS E S⟩) n
structure SysOk (P:Program) (S:Sys):Prop where
  code:∀ N base av c s e s1,S.code N base av c s = some (e,s1) -> AWP P N c (fun e' s'=>e' = e /\ s' = s1) s
  fn:∀ base av f xs H r H',S.fn base av f xs H = some (r,H') -> Con P f xs H r H'
theorem bml {P:Program} {S:Sys} (h:SysOk P S) (base:Nat):(trF S base).Ok P:=by
 intro av f xs H r H' h1
 unfold trF at h1
 simp only at h1
 split at h1
 ·rename_i h2; cases h1; exact bsb (h.fn _ _ _ _ _ _ _ h2)
 ·cases h1
theorem bmp {E:Env P} {S:Sys} (h:SysOk P S) {base:Nat} {av:List Nat} {f:FuncId} {xs:List AV} {H H':Hp} {r:AV} (h1:fnS E S base av f xs H = some (r, H')):Con P f xs H r H':=by
 unfold fnS at h1
 split at h1
 ·rename_i fe hfe
  split at h1
  ·rename_i hc
   simp only [and_eq_true] at hc
   have hf:=eq_of_beq_eq_true hc.1
   subst hf
   split at h1
   ·rename_i sl hsl
    cases ao0 hsl
    split at h1
    ·rename_i e s1 h2
     split at h1
     ·rename_i he
      refine a8j fe.hf fe.hb fe.hn fe.hrs rfl (fun k z hz=>a0r hc.2 hz) ?_
      refine a8e (h.code _ _ _ _ _ _ _ h2) ?_
      rintro e' s' ⟨he',hs'⟩
      rw [he',hs']
      obtain ⟨s2,hw,hx⟩:=bkd h1
      refine ⟨s2,hw,?_⟩
      cases e <;> first | exact hx | exact (nomatch he)
     ·cases h1
    ·cases h1
   ·cases h1
  ·cases h1
 ·cases h1
theorem bb7 (E:Env P):∀ n m, m <= n -> SysOk P (ev E m)
 | 0, m, hm=>by
  have:m = 0:=by omega
  subst this
  exact { code:=(fun _ _ _ _ _ _ _ h=>by cases h),fn:=(fun _ _ _ _ _ _ _ h=>by cases h) }
 | n + 1, m, hm=>by
  by_cases hmn:m <= n
  ·exact bb7 E n m hmn
  ·have : m = n + 1 := by omega
   subst this
   have ih:=bb7 E n n (le_refl _)
   refine ⟨?_,fun base av f xs H r H' h=>bmp ih h⟩
   intro N base av c s e s1 h
   change axl E (ev E n) N base av c s = some (e,s1) at h
   cases c with
   | skip=>cases h; exact a1s ⟨rfl,rfl⟩
   | ret=>cases h; exact a9e ⟨rfl,rfl⟩
   | exit id=>cases h; exact a0w ⟨rfl,rfl⟩
   | seq x y =>
    simp only [axl] at h
    split at h
    ·rename_i e1 s2 h1
     refine a7r fun K hK=>acs (ih.code _ _ _ _ _ _ _ h1) ?_
     rintro e' s' ⟨he,hs⟩
     rw [he,hs]
     split at h
     ·rename_i hr
      cases e1 <;> first | exact hK _ (ih.code _ _ _ _ _ _ _ h) | exact (nomatch hr)
     ·rename_i hr
      obtain ⟨rfl,rfl⟩:=Prod.mk.inj (Option.some.inj h)
      cases e1 <;> first | exact ⟨rfl,rfl⟩ | exact (nomatch hr)
    ·cases h
   | block id c =>
    simp only [axl] at h
    split at h
    ·rename_i e1 s2 h1
     refine ax5 (acs (ih.code _ _ _ _ _ _ _ h1) ?_)
     rintro e' s' ⟨he,hs⟩
     rw [he,hs]
     split at h
     ·rename_i id'
      show match Nat.beq id' id with | true=>_ | false=>_
      split at h
      ·rename_i hb
       obtain ⟨rfl,rfl⟩:=Prod.mk.inj (Option.some.inj h)
       simp only []; exact ⟨trivial,trivial⟩
      ·rename_i hb
       obtain ⟨rfl,rfl⟩:=Prod.mk.inj (Option.some.inj h)
       simp only []; exact ⟨trivial,trivial⟩
     ·rename_i hne
      obtain ⟨rfl,rfl⟩:=Prod.mk.inj (Option.some.inj h)
      cases e1 <;> first | exact ⟨rfl,rfl⟩ | exact absurd rfl (hne _)
    ·cases h
   | cond c x y =>
    simp only [axl] at h
    split at h
    ·rename_i b hb
     split at h
     ·exact aup (abb hb) (fun _=>ih.code _ _ _ _ _ _ _ h) (fun e=>by cases e)
     ·exact aup (abb hb) (fun e=>by cases e) (fun _=>ih.code _ _ _ _ _ _ _ h)
    ·cases h
   | loop c =>
    refine ait (fun m s=>m <= n + 1 /\ (ev E m).code N base av (.loop c) s = some (e,s1)) (n:=n + 1) (.refl _) ⟨le_refl _,h⟩ ?_
    rintro m s ⟨hm,hI⟩ K hK
    cases m with
    | zero=>cases hI
    | succ m =>
     change axl E (ev E m) N base av (.loop c) s = some (e,s1) at hI
     have ihm:=bb7 E n m (by omega)
     simp only [axl] at hI
     split at hI
     ·rename_i e1 s2 h1
      refine acs (ihm.code _ _ _ _ _ _ _ h1) ?_
      rintro e' s' ⟨he,hs⟩
      rw [he,hs]
      split at hI
      ·rename_i hr
       cases e1 <;> first | exact hK _ _ m (brm s2) ⟨by omega,hI⟩ (by omega) | exact (nomatch hr)
      ·rename_i hr
       obtain ⟨rfl,rfl⟩:=Prod.mk.inj (Option.some.inj hI)
       cases e1 <;> first | exact ⟨rfl,rfl⟩ | exact (nomatch hr)
     ·cases hI
   | region id A d =>
    simp only [axl] at h
    split at h
    ·rename_i hnd
     split at h
     ·rename_i s0 h0
      refine ae9 (azy h0) ?_
      split at h
      ·rename_i s' h1
       obtain ⟨rfl,rfl⟩:=Prod.mk.inj (Option.some.inj h)
       exact azc (bml ih base) (au1 hnd) h1
      ·cases h
     ·cases h
    ·cases h
   | _=>cases h
theorem ah1 (E:Env P) (n:Nat) {base:Nat} {av:List Nat} {f:FuncId} {xs:List AV} {H H':Hp} {r:AV} (h:(ev E n).fn base av f xs H = some (r, H')):Con P f xs H r H' :=
 (bb7 E n n (le_refl _)).fn _ _ _ _ _ _ _ h
end Go.Lw
namespace Go.Lw
def bgc (s:ByteArray) (n:Int):Bd:=⟨s,[⟨⟨#[97]⟩,rt ((0:Int):Rat),rt ((0:Int):Rat)⟩,⟨⟨#[98]⟩,rt (n:Rat),rt ((0:Int):Rat)⟩]⟩
def fb:Li:=⟨⟨#[102, 111, 117, 114, 98, 97, 114]⟩, [bgc ⟨#[102, 114, 97, 109, 101]⟩ 4, bgc ⟨#[99, 114, 97, 110, 107]⟩ 3, bgc ⟨#[99, 111, 117, 112, 108, 101, 114]⟩ 5, bgc ⟨#[114, 111, 99, 107, 101, 114]⟩ 6],
  [⟨⟨#[111]⟩,0,1,0,0,0,0⟩,⟨⟨#[112]⟩,0,2,0,1,1,0⟩,⟨⟨#[113]⟩,0,3,0,0,1,0⟩,⟨⟨#[114]⟩,0,2,1,3,1,0⟩],[⟨⟨#[100]⟩,1⟩]⟩
def t0:Tn:=⟨⟨false,[],[]⟩,false⟩
theorem at1 (a b:ByteArray):eqS a b = (a.data.toList == b.data.toList):=by
 unfold eqS; rw [Go.ByteArray.toList_eq,Go.ByteArray.toList_eq]
theorem ah2:liE fb = 0:=by
 have h1:ayb fb = 0:=by
  unfold ayb ad6 bdE axb mkE
  simp only [at1]
  decide +kernel
 have h2:aq0 fb = 0:=by
  unfold aq0 ad6 jtE axb
  simp only [at1]
  decide +kernel
 have h3:azh fb = 0:=by
  unfold azh ad6 drE axb
  simp only [at1]
  decide +kernel
 unfold liE
 rw [h1,h2,h3]
 decide +kernel
theorem bg7 {s:ByteArray} (hs:s.size <= 281474976710656) {n:Int} (hn:-9223372036854775808 <= n /\ n <= 9223372036854775807) :
  (bgc s n).name.size <= 281474976710656 /\ (bgc s n).pts.length <= 281474976710656 /\ ∀ m ∈ (bgc s n).pts,m.name.size <= 281474976710656 /\ m.x.wok /\ m.y.wok:=by
 have h0:(rt ((0:Int):Rat)).ok:=(awf (by omega)).ok
 have h1:(rt (n:Rat)).ok:=(awf hn).ok
 refine ⟨hs,by show 2 <= _; omega,fun m hm=>?_⟩
 simp only [bgc,mem_cons,not_mem_nil,or_false] at hm
 rcases hm with rfl | rfl
 ·exact ⟨by show 1 <= _; omega,h0.wok,h0.wok⟩
 ·exact ⟨by show 1 <= _; omega,h1.wok,h0.wok⟩
theorem bnc:fb.okw:=by
 refine ⟨by decide,fun b hb=>?_,fun j hj=>?_,fun d hd=>?_,by decide,by decide,by decide⟩
 ·simp only [fb, mem_cons, not_mem_nil, or_false] at hb
  rcases hb with rfl | rfl | rfl | rfl <;> exact bg7 (by decide) (by omega)
 ·simp only [fb, mem_cons, not_mem_nil, or_false] at hj
  rcases hj with rfl | rfl | rfl | rfl <;> decide
 ·simp only [fb, mem_cons, not_mem_nil, or_false] at hd
  rcases hd with rfl; decide
theorem ah5:fb.ok:=bin (by decide +kernel) bnc
end Go.Lw
namespace Go.Lw
open Go.Proofs
def feG (P:Program) (n:Nat):Option (FE P):=match h:P.funcs[n]? with
  | none=>none
  | some fn=>match hb:fn.body with
    | none=>none
    | some c => match hn : (fn.name == "runtime.NumGoroutine") with
      | true=>none
      | false=>some ⟨n,fn,c,fn.results.toList,h,hb,hn,by simp⟩
def smQ (q:Rat):Bool:=Nat.blt q.num.natAbs 18446744073709551616 && Nat.blt q.den 18446744073709551616
theorem bgr {q:Rat} (h:smQ q = true):Qb 64 q:=by
 simp only [smQ,and_eq_true,Nat.blt_eq] at h
 exact ⟨h.1,h.2⟩
theorem ahr {q:Rat} (h:smQ q = true):Qs q:=(bgr h).qs (by omega)
def n0 (q:Rat):AV:=nA (sh 0 (q:Rat))
def z0:AV:=ad7 []
theorem ai1 {q:Rat} (h:smQ q = true):Nm ([]:List (List Rat)).length 64 (sh 0 (q:Rat)):=Nm.ofQ (by decide) (Cb.one (bgr h))
theorem a5c (q:Rat):dec ([]:List (List Rat)).length (sh 0 (q:Rat)) = q:=am2 0 q
theorem be9:Tw [] 1 where
 three:=by decide
 len:=fun j hj=>absurd hj (Nat.not_lt_zero j)
 pos:=fun j hj=>absurd hj (Nat.not_lt_zero j)
 rb:=⟨1,1,by omega,fun d hd=>absurd hd not_mem_nil,by decide,by decide⟩
 le:=by decide
theorem lm0:lm ([]:List (List Rat)).length = 200000000000:=rfl
def dW:List AV -> Nat
  | []=>0
  | x :: l=>match x with
    | .v (.int _ (.ofNat n))=>n + 4294967296 * dW l
    | _=>0
def dWs:AV -> Nat
  | .lst _ l=>dW l
  | _=>0
def dQ (x:AV):Rat:=match x with
  | .agg (.v (.bool s) :: n :: d :: _)=>match s with
    | true=>mkRat (-(dWs n:Int)) (dWs d)
    | false=>mkRat (dWs n:Int) (dWs d)
  | _=>0
def dN (x:AV):Rat:=match x with
  | .lst _ (x :: _)=>dQ x
  | _=>0
abbrev En:=Option (Ent prog)
def w2 (f:FuncId) (g:Rat -> Rat -> AV) (h:∀ p q, smQ p = true -> smQ q = true -> FnC prog f [qA p, qA q] (g p q)) (p q:Rat):En:=match hh:smQ p && smQ q with
  | true=>some ⟨f,[qA p,qA q],g p q,[],h p q (by rw [and_eq_true] at hh; exact hh.1) (by rw [and_eq_true] at hh; exact hh.2)⟩
  | false=>none
def oQ2 (f:FuncId) (g:Rat -> Rat -> AV) (h:∀ p q, smQ p = true -> smQ q = true -> FnC prog f [qA p, qA q] (g p q)) (xs:List AV):En:=match xs with
  | [a,b]=>w2 f g h (dQ a) (dQ b)
  | _=>none
def w1 (f:FuncId) (a:Rat -> AV) (g:Rat -> AV) (h:∀ p, smQ p = true -> FnC prog f [a p] (g p)) (p:Rat):En:=match hh:smQ p with
  | true=>some ⟨f,[a p],g p,[],h p hh⟩
  | false=>none
def oQ1 (f:FuncId) (g:Rat -> AV) (h:∀ p, smQ p = true -> FnC prog f [qA p] (g p)) (xs:List AV):En:=match xs with
  | [a]=>w1 f qA g h (dQ a)
  | _=>none
def w3 (f:FuncId) (g:Rat -> Rat -> AV) (h:∀ p q, smQ p = true -> smQ q = true -> FnC prog f [z0, n0 p, n0 q] (g p q)) (p q:Rat):En:=match hh:smQ p && smQ q with
  | true=>some ⟨f,[z0,n0 p,n0 q],g p q,[],h p q (by rw [and_eq_true] at hh; exact hh.1) (by rw [and_eq_true] at hh; exact hh.2)⟩
  | false=>none
def oT2 (f:FuncId) (g:Rat -> Rat -> AV) (h:∀ p q, smQ p = true -> smQ q = true -> FnC prog f [z0, n0 p, n0 q] (g p q)) (xs:List AV):En:=match xs with
  | [_,a,b]=>w3 f g h (dN a) (dN b)
  | _=>none
def w4 (f:FuncId) (g:Rat -> AV) (h:∀ p, smQ p = true -> FnC prog f [z0, n0 p] (g p)) (p:Rat):En:=match hh:smQ p with
  | true=>some ⟨f,[z0,n0 p],g p,[],h p hh⟩
  | false=>none
def oT1 (f:FuncId) (g:Rat -> AV) (h:∀ p, smQ p = true -> FnC prog f [z0, n0 p] (g p)) (xs:List AV):En:=match xs with
  | [_,a]=>w4 f g h (dN a)
  | _=>none
def oC (f:FuncId) (ys:List AV) (r:AV) (h:FnC prog f ys r) (xs:List AV):En:=some ⟨f,ys,r,[],h⟩
def dI (x:AV):Int:=match x with
  | .v (.int _ z)=>z
  | _=>0
def oI (f:FuncId) (g:Int -> AV) (h:∀ z, (-9223372036854775808 <= z /\ z <= 9223372036854775807) -> FnC prog f [i64 z] (g z)) (xs:List AV):En:=match xs with
  | [a]=>match (inferInstance:Decidable (-9223372036854775808 <= dI a /\ dI a <= 9223372036854775807)) with
    | .isTrue hh=>some ⟨f,[i64 (dI a)],g (dI a),[],h (dI a) hh⟩
    | .isFalse _=>none
  | _=>none
theorem brw (p q:Rat) (hp:smQ p = true) (hq:smQ q = true):FnC prog 322 [z0, n0 p, n0 q] (.tup [n0 (p + q), .v .nilIface]):=by
 have h:=bfh be9 (ai1 hp) (ai1 hq) (by rw [lm0]; omega)
 rw [a5c,a5c] at h; exact h
theorem bqt (p q:Rat) (hp:smQ p = true) (hq:smQ q = true):FnC prog 321 [z0, n0 p, n0 q] (.tup [n0 (p + -q), .v .nilIface]):=by
 have h:=bgn be9 (ai1 hp) (ai1 hq) (by rw [lm0]; omega)
 rw [a5c,a5c] at h; exact h
theorem bp7 (p q:Rat) (hp:smQ p = true) (hq:smQ q = true):FnC prog 56 [z0, n0 p, n0 q] (.tup [n0 (p * q), .v .nilIface]):=by
 have h:=bga be9 (ai1 hp) (ai1 hq) (by rw [lm0]; omega)
 rw [a5c,a5c] at h; exact h
theorem bk6 (p:Rat) (hp:smQ p = true):FnC prog 40 [z0, n0 p] (.tup [i64 (af7 p), .v .nilIface]):=by
 have h:=aql be9 (ai1 hp) (by rw [lm0]; omega)
 rw [a5c] at h; exact h
theorem brr (p:Rat) (hp:smQ p = true):FnC prog 161 [z0, n0 p] (.tup [n0 (-p), .v .nilIface]):=by
 have h:=be8 be9 (ai1 hp) (by rw [lm0]; omega)
 rw [a5c] at h; exact h
theorem bj7 (p q:Rat) (hp:smQ p = true) (hq:smQ q = true):FnC prog 27 [z0, n0 p, n0 q] (bl (decide (af7 (p + -q) = 0))):=by
 have h:=acq be9 (ai1 hp) (ai1 hq) (by rw [lm0]; omega)
 rw [a5c,a5c] at h; exact h
def bsw:FuncId -> Option (List AV -> En)
  | 322=>some (oT2 322 _ brw)
  | 321=>some (oT2 321 _ bqt)
  | 56=>some (oT2 56 _ bp7)
  | 40=>some (oT1 40 _ bk6)
  | 161=>some (oT1 161 _ brr)
  | 158=>some (oC 158 [z0] (.v .nilIface) (a18 be9))
  | 136=>some (oQ1 136 n0 fun _ h=>aw2 (ahr h))
  | 27=>some (oT2 27 _ bj7)
  | 137=>some (oI 137 (fun z=>qA z) ad2)
  | 189=>some (oI 189 (fun z=>qA z) aml)
  | 101=>some (oQ1 101 n0 fun _ h=>azr (ahr h))
  | 142=>some (oQ2 142 (fun p q=>qA (p + q)) fun _ _ h h'=>bcz (ahr h) (ahr h'))
  | 258=>some (oQ2 258 (fun p q=>qA (p - q)) fun _ _ h h'=>a8o (ahr h) (ahr h'))
  | 204=>some (oQ2 204 (fun p q=>qA (p * q)) fun _ _ h h'=>a3p (ahr h) (ahr h'))
  | 396=>some (oQ2 396 (fun p q=>.tup [qA (p / q),ah7 (if q = 0 then 8 else 0)]) fun _ _ h h'=>bme (ahr h) (ahr h'))
  | 69=>some (oQ1 69 (fun p=>qA (-p)) fun _ h=>bqa (ahr h))
  | 179=>some (oQ1 179 (fun p=>i64 (af7 p)) fun _ h=>bnq (ahr h))
  | _=>none
def dIs (x:AV):List Int:=match x with
  | .lst _ es=>es.map dI
  | _=>[]
def dG (x:AV):Gr:=match x with
  | .agg [k,b,j,d]=>⟨dI k,dIs b,dIs j,dI d⟩
  | _=>default
def brt (n:Nat) (l:List Int):Bool:=l.all fun z=>aaa .leq 0 z && aaa .lss z n
theorem a63 {n:Nat} {l:List Int} (h:brt n l = true):∀ x ∈ l, 0 <= x /\ x < n:=by
 intro x hx
 have:=List.all_eq_true.1 h x hx
 simp only [and_eq_true,aaa,decide_eq_true_eq] at this
 exact this
def grB (l:Li) (g:Gr):Bool:=brt l.bodies.length g.bodies && brt l.joints.length g.joints && Nat.ble g.bodies.length 2 && Nat.ble g.joints.length 3
theorem bla {l:Li} {g:Gr} (h:grB l g = true):GrOk l g:=by
 simp only [grB,and_eq_true,Nat.ble_eq] at h
 exact ⟨a63 h.1.1.1,a63 h.1.1.2,h.1.2,h.2⟩
def bsq (l:Li) (hl:l.ok) (hli:liE l = 0) (g:Gr):En:=match hh:grB l g with
  | true=>some ⟨159,[l.av,g.av],_,_,apm l hl hli g (bla hh)⟩
  | false=>none
def bst (l:Li) (hl:l.ok) (hli:liE l = 0) (xs:List AV):En:=match xs with
  | [_,g]=>bsq l hl hli (dG g)
  | _=>none
theorem biz (l:Li) (hl:l.ok) (hli:liE l = 0):FnC prog 80 [l.av] (.tup [.lst 4 ((splitG l).map Gr.av), ah7 (splitE l)]):=by
 have h:=ari l hl
 rw [if_pos hli,if_pos hli] at h; exact h
def asn (l:Li) (hl:l.ok) (hli:liE l = 0):FuncId -> Option (List AV -> En)
  | 80=>some (oC 80 [l.av] _ (biz l hl hli))
  | 159=>some (bst l hl hli)
  | 212=>some (oQ1 212 (fun p=>bl (rt p).valid) fun _ h=>acg _ (ahr h).ok)
  | f=>bsw f
def orP:List (Ent prog) -> FuncId -> Bool
  | [],_=>false
  | e :: l, f=>match Nat.beq e.f f with
    | true=>true
    | false=>orP l f
def orS (xs:List AV) (f:FuncId):List (Ent prog) -> En
  | []=>none
  | e :: l=>match Nat.beq e.f f && ax9 xs e.xs with
    | true=>some e
    | false=>orS xs f l
def orF (L:List (Ent prog)) (o:FuncId -> Option (List AV -> En)) (f:FuncId):Option (List AV -> En):=match orP L f with
  | true=>some fun xs=>match orS xs f L with
    | some e=>some e
    | none=>match o f with
      | some g=>g xs
      | none=>none
  | false=>o f
def asy (n:FuncId):Bool:=Nat.beq n 160 || (Nat.beq n 253 || Nat.beq n 309)
end Go.Lw
namespace Go.Lw
open Go.Proofs
theorem bqz (p q:Rat) (hp:smQ p = true) (hq:smQ q = true):FnC prog 57 [z0, n0 p, n0 q] (.tup [i64 (af7 (p + -q)), .v .nilIface]):=by
 have h:=a2h be9 (ai1 hp) (ai1 hq) (by rw [lm0]; omega)
 rw [a5c,a5c] at h; exact h
def asw (o:FuncId -> Option (List AV -> En)):FuncId -> Option (List AV -> En)
  | 57=>some (oT2 57 _ bqz)
  | f=>o f
end Go.Lw
namespace Go.Lw
open Go.Proofs
set_option maxRecDepth 20000
def bnr:AV:=.agg [.v (.string ⟨⟨[111]⟩⟩),.v (.int .i64 0),.v (.int .i64 1),.v (.int .i64 0),.v (.int .i64 0),.v (.int .i64 0),.v (.int .i64 0)]
def bms:AV:=.agg [.v (.string ⟨⟨[112]⟩⟩),.v (.int .i64 0),.v (.int .i64 2),.v (.int .i64 0),.v (.int .i64 1),.v (.int .i64 1),.v (.int .i64 0)]
def bnp:AV:=.agg [.v (.string ⟨⟨[113]⟩⟩),.v (.int .i64 0),.v (.int .i64 3),.v (.int .i64 0),.v (.int .i64 0),.v (.int .i64 1),.v (.int .i64 0)]
def bmc:AV:=.agg [.v (.string ⟨⟨[114]⟩⟩),.v (.int .i64 0),.v (.int .i64 2),.v (.int .i64 1),.v (.int .i64 3),.v (.int .i64 1),.v (.int .i64 0)]
def bfj:AV:=.agg [.lst 3 [.agg [.v (.bool false),.lst 1 [.v (.int .u32 1)],.lst 1 [.v (.int .u32 1)]]],.v (.slice none 0 0),.lst 3 [],.lst 3 []]
def bot:AV:=.agg [.v (.string ⟨⟨[98]⟩⟩),.v (.bool false),.lst 1 [.v (.int .u32 4)],.lst 1 [.v (.int .u32 1)],.v (.bool false),.lst 1 [],.lst 1 []]
def bnz:AV:=.agg [.v (.string ⟨⟨[98]⟩⟩),.v (.bool false),.lst 1 [.v (.int .u32 3)],.lst 1 [.v (.int .u32 1)],.v (.bool false),.lst 1 [],.lst 1 []]
def blx:AV:=.agg [.v (.string ⟨⟨[98]⟩⟩),.v (.bool false),.lst 1 [.v (.int .u32 5)],.lst 1 [.v (.int .u32 1)],.v (.bool false),.lst 1 [],.lst 1 []]
def bo6:AV:=.agg [.v (.string ⟨⟨[98]⟩⟩),.v (.bool false),.lst 1 [.v (.int .u32 6)],.lst 1 [.v (.int .u32 1)],.v (.bool false),.lst 1 [],.lst 1 []]
def bgq:AV:=.agg [.v (.slice none 0 0),.lst 2 [.agg [.lst 3 [.agg [.v (.bool true),.lst 1 [.v (.int .u32 2)],.lst 1 [.v (.int .u32 1)]]],.lst 3 []]]]
def auy:AV:=.agg [.lst 3 [.agg [.v (.bool false),.lst 1 [.v (.int .u32 1)],.lst 1 [.v (.int .u32 1)]]],.v (.slice none 0 0),.v (.slice none 0 0),.v (.slice none 0 0)]
def bhu:AV:=.agg [.lst 3 [.agg [.v (.bool true),.lst 1 [.v (.int .u32 1)],.lst 1 [.v (.int .u32 1)]]],.v (.slice none 0 0),.lst 3 [.agg [.v (.bool false),.lst 1 [.v (.int .u32 3)],.lst 1 [.v (.int .u32 1)]]],.lst 3 []]
def bkk:AV:=.agg [.lst 3 [.agg [.v (.bool true),.lst 1 [.v (.int .u32 1)],.lst 1 [.v (.int .u32 1)]]],.v (.slice none 0 0),.lst 3 [.agg [.v (.bool false),.lst 1 [.v (.int .u32 4)],.lst 1 [.v (.int .u32 1)]]],.lst 3 []]
def bju:AV:=.agg [.lst 3 [.agg [.v (.bool true),.lst 1 [.v (.int .u32 1)],.lst 1 [.v (.int .u32 1)]]],.v (.slice none 0 0),.lst 3 [.agg [.v (.bool false),.lst 1 [.v (.int .u32 3)],.lst 1 [.v (.int .u32 1)]]],.v (.slice none 0 0)]
def bir:AV:=.agg [.lst 3 [.agg [.v (.bool true),.lst 1 [.v (.int .u32 1)],.lst 1 [.v (.int .u32 1)]]],.v (.slice none 0 0),.lst 3 [.agg [.v (.bool false),.lst 1 [.v (.int .u32 4)],.lst 1 [.v (.int .u32 1)]]],.v (.slice none 0 0)]
def bhc:AV:=.lst 7 [.agg [.v (.string ⟨⟨[97]⟩⟩),.v (.bool false),.lst 1 [],.lst 1 [],.v (.bool false),.lst 1 [],.lst 1 []],bot]
def bji:AV:=.lst 7 [.agg [.v (.string ⟨⟨[97]⟩⟩),.v (.bool false),.lst 1 [],.lst 1 [],.v (.bool false),.lst 1 [],.lst 1 []],bnz]
def bh8:AV:=.lst 7 [.agg [.v (.string ⟨⟨[97]⟩⟩),.v (.bool false),.lst 1 [],.lst 1 [],.v (.bool false),.lst 1 [],.lst 1 []],blx]
def bjl:AV:=.lst 7 [.agg [.v (.string ⟨⟨[97]⟩⟩),.v (.bool false),.lst 1 [],.lst 1 [],.v (.bool false),.lst 1 [],.lst 1 []],bo6]
def bhz:AV:=.agg [.v (.string ⟨⟨[99,114,97,110,107]⟩⟩),bji]
def bh1:AV:=.agg [.v (.string ⟨⟨[102,114,97,109,101]⟩⟩),bhc]
def bho:AV:=.agg [.v (.string ⟨⟨[114,111,99,107,101,114]⟩⟩),bjl]
def bjc:AV:=.agg [.v (.string ⟨⟨[99,111,117,112,108,101,114]⟩⟩),bh8]
def bhm:AV:=.lst 4 [bhu,bkk]
def a5x:AV:=.agg [.v (.slice none 0 0),bhm,.v (.int .i64 0)]
def bjv:AV:=.lst 7 [bnr,bms,bnp,bmc]
def bjw:AV:=.lst 4 [auy,auy,bju,bir]
def alk:AV:=.agg [.v (.slice none 0 0),bjw,.lst 1 [.v (.int .i64 1),.v (.int .i64 0)]]
def bib:AV:=.lst 2 [bh1,bhz,bjc,bho]
def ahk:AV:=.agg [.v (.string ⟨⟨[102,111,117,114,98,97,114]⟩⟩),bib,bjv,.lst 2 [.agg [.v (.string ⟨⟨[100]⟩⟩),.v (.int .i64 1)]]]
theorem brv:Con prog 29 [] [] (ahk) []:=ah1 ⟨orF [] (asw (asn fb ah5 ah2)),feG prog,asy⟩ 6000 (base:=2000) (av:=[]) (by kernel_rfl)
def bf6:List (Ent prog):=⟨_,_,_,_,brv⟩ :: []
theorem bpv:Con prog 133 [ahk,.v (.int .i64 0),.agg [.v (.bool false),.v (.slice none 0 0),.v (.slice none 0 0),.v (.bool false)],.agg [.v (.slice none 0 0),.lst 4 [auy,.agg [.v (.slice none 0 0),.v (.slice none 0 0),.v (.slice none 0 0),.v (.slice none 0 0)],.agg [.v (.slice none 0 0),.v (.slice none 0 0),.v (.slice none 0 0),.v (.slice none 0 0)],.agg [.v (.slice none 0 0),.v (.slice none 0 0),.v (.slice none 0 0),.v (.slice none 0 0)]],.v (.slice none 0 0)]] [] (.tup [.lst 3 [.agg [.v (.slice none 0 0),.lst 4 [bfj],.v (.int .i64 1)]],.v .nilIface]) []:=ah1 ⟨orF bf6 (asw (asn fb ah5 ah2)),feG prog,asy⟩ 6000 (base:=2000) (av:=[]) (by kernel_rfl)
def bfg:List (Ent prog):=⟨_,_,_,_,bpv⟩ :: bf6
theorem bq9:Con prog 280 [.agg [.v (.slice none 0 0)],.agg [.lst 3 [.agg [.v (.bool false),.lst 1 [.v (.int .u32 3)],.lst 1 [.v (.int .u32 1)]]],.lst 3 [],.lst 3 [.agg [.v (.bool false),.lst 1 [.v (.int .u32 25)],.lst 1 [.v (.int .u32 1)]]]],.agg [.lst 3 [.agg [.v (.bool false),.lst 1 [.v (.int .u32 4)],.lst 1 [.v (.int .u32 1)]]],.lst 3 [],.lst 3 [.agg [.v (.bool false),.lst 1 [.v (.int .u32 36)],.lst 1 [.v (.int .u32 1)]]]]] [] (.tup [bgq,.v .nilIface]) []:=ah1 ⟨orF bfg (asw (asn fb ah5 ah2)),feG prog,asy⟩ 6000 (base:=2000) (av:=[]) (by kernel_rfl)
def bfs:List (Ent prog):=⟨_,_,_,_,bq9⟩ :: bfg
theorem brc:Con prog 282 [bgq,.lst 14 [.agg [.v (.bool false),.lst 1 [],.lst 1 [],.v (.bool false),.lst 1 [],.lst 1 [],.lst 3 [.agg [.v (.bool false),.lst 1 [.v (.int .u32 3)],.lst 1 [.v (.int .u32 1)]]],.lst 3 [],.v (.bool false),.lst 1 [.v (.int .u32 5)],.lst 1 [.v (.int .u32 1)],.v (.bool false),.lst 1 [],.lst 1 []],.agg [.v (.bool false),.lst 1 [],.lst 1 [],.v (.bool false),.lst 1 [],.lst 1 [],.lst 3 [.agg [.v (.bool false),.lst 1 [.v (.int .u32 4)],.lst 1 [.v (.int .u32 1)]]],.lst 3 [],.v (.bool false),.lst 1 [.v (.int .u32 6)],.lst 1 [.v (.int .u32 1)],.v (.bool false),.lst 1 [],.lst 1 []]]] [] (.tup [.ms 300 3 0 1,.v .nilIface]) [(300,some (.row 3 [a5x]))]:=ah1 ⟨orF bfs (asw (asn fb ah5 ah2)),feG prog,asy⟩ 6000 (base:=2000) (av:=[]) (by kernel_rfl)
def bf7:List (Ent prog):=⟨_,_,_,_,brc⟩ :: bfs
theorem bqo:Con prog 133 [ahk,.v (.int .i64 1),.agg [.v (.bool false),.v (.slice none 0 0),.v (.slice none 0 0),.v (.bool false)],.agg [.v (.slice none 0 0),.lst 4 [auy,bfj,.agg [.v (.slice none 0 0),.v (.slice none 0 0),.v (.slice none 0 0),.v (.slice none 0 0)],.agg [.v (.slice none 0 0),.v (.slice none 0 0),.v (.slice none 0 0),.v (.slice none 0 0)]],.lst 1 [.v (.int .i64 1)]]] [] (.tup [.ms 300 3 0 1,.v .nilIface]) [(300,some (.row 3 [a5x]))]:=ah1 ⟨orF bf7 (asw (asn fb ah5 ah2)),feG prog,asy⟩ 6000 (base:=2000) (av:=[]) (by kernel_rfl)
def bgg:List (Ent prog):=⟨_,_,_,_,bqo⟩ :: bf7
theorem brz:Con prog 214 [.lst 3 [.agg [.v (.bool false),.lst 1 [.v (.int .u32 1)],.lst 1 [.v (.int .u32 1)]]]] [] (.ms 300 3 0 1) [(300,some (.row 3 [.agg [.v (.bool false),.lst 1 [.v (.int .u32 1)],.lst 1 [.v (.int .u32 1)]]]))]:=ah1 ⟨orF bgg (asw (asn fb ah5 ah2)),feG prog,asy⟩ 6000 (base:=2000) (av:=[]) (by kernel_rfl)
def bff:List (Ent prog):=⟨_,_,_,_,brz⟩ :: bgg
theorem bpt:Con prog 214 [.v (.slice none 0 0)] [] (.v (.slice none 0 0)) []:=ah1 ⟨orF bff (asw (asn fb ah5 ah2)),feG prog,asy⟩ 6000 (base:=2000) (av:=[]) (by kernel_rfl)
def be2:List (Ent prog):=⟨_,_,_,_,bpt⟩ :: bff
theorem bqr:Con prog 214 [.lst 3 []] [] (.v (.slice none 0 0)) []:=ah1 ⟨orF be2 (asw (asn fb ah5 ah2)),feG prog,asy⟩ 6000 (base:=2000) (av:=[]) (by kernel_rfl)
def bfq:List (Ent prog):=⟨_,_,_,_,bqr⟩ :: be2
theorem bqy:Con prog 214 [.lst 3 [.agg [.v (.bool true),.lst 1 [.v (.int .u32 1)],.lst 1 [.v (.int .u32 1)]]]] [] (.ms 300 3 0 1) [(300,some (.row 3 [.agg [.v (.bool true),.lst 1 [.v (.int .u32 1)],.lst 1 [.v (.int .u32 1)]]]))]:=ah1 ⟨orF bfq (asw (asn fb ah5 ah2)),feG prog,asy⟩ 6000 (base:=2000) (av:=[]) (by kernel_rfl)
def bgv:List (Ent prog):=⟨_,_,_,_,bqy⟩ :: bfq
theorem bp9:Con prog 214 [.lst 3 [.agg [.v (.bool false),.lst 1 [.v (.int .u32 3)],.lst 1 [.v (.int .u32 1)]]]] [] (.ms 300 3 0 1) [(300,some (.row 3 [.agg [.v (.bool false),.lst 1 [.v (.int .u32 3)],.lst 1 [.v (.int .u32 1)]]]))]:=ah1 ⟨orF bgv (asw (asn fb ah5 ah2)),feG prog,asy⟩ 6000 (base:=2000) (av:=[]) (by kernel_rfl)
def bgi:List (Ent prog):=⟨_,_,_,_,bp9⟩ :: bgv
theorem bof:Con prog 214 [.lst 3 [.agg [.v (.bool false),.lst 1 [.v (.int .u32 4)],.lst 1 [.v (.int .u32 1)]]]] [] (.ms 300 3 0 1) [(300,some (.row 3 [.agg [.v (.bool false),.lst 1 [.v (.int .u32 4)],.lst 1 [.v (.int .u32 1)]]]))]:=ah1 ⟨orF bgi (asw (asn fb ah5 ah2)),feG prog,asy⟩ 6000 (base:=2000) (av:=[]) (by kernel_rfl)
def a7a:List (Ent prog):=⟨_,_,_,_,bof⟩ :: bgi
theorem bou:Con prog 30 [ahk,.lst 4 [.agg [.v (.bool false),.v (.slice none 0 0),.v (.slice none 0 0),.v (.bool false)]],.lst 1 [.v (.int .i64 1),.v (.int .i64 0)]] [] (.tup [alk,.v .nilIface]) []:=ah1 ⟨orF a7a (asw (asn fb ah5 ah2)),feG prog,asy⟩ 6000 (base:=2000) (av:=[]) (by kernel_rfl)
def a8q:List (Ent prog):=⟨_,_,_,_,bou⟩ :: a7a
theorem bnt:Con prog 157 [ahk,.lst 4 [.agg [.v (.bool false),.v (.slice none 0 0),.v (.slice none 0 0),.v (.bool false)]],alk] [] (.agg [.v (.int .i64 0),.v (.int .i64 0)]) []:=ah1 ⟨orF a8q (asw (asn fb ah5 ah2)),feG prog,asy⟩ 6000 (base:=2000) (av:=[]) (by kernel_rfl)
def a82:List (Ent prog):=⟨_,_,_,_,bnt⟩ :: a8q
theorem bld:Con prog 39 [ahk,.v (.int .i64 0),alk] [] (.tup [.lst 3 [.agg [.v (.bool false),.lst 1 [.v (.int .u32 1)],.lst 1 [.v (.int .u32 1)]]],.v .nilIface]) []:=ah1 ⟨orF a82 (asw (asn fb ah5 ah2)),feG prog,asy⟩ 6000 (base:=2000) (av:=[]) (by kernel_rfl)
def a53:List (Ent prog):=⟨_,_,_,_,bld⟩ :: a82
theorem bni:Con prog 39 [ahk,.v (.int .i64 1),alk] [] (.tup [.lst 3 [],.v .nilIface]) []:=ah1 ⟨orF a53 (asw (asn fb ah5 ah2)),feG prog,asy⟩ 6000 (base:=2000) (av:=[]) (by kernel_rfl)
def a9j:List (Ent prog):=⟨_,_,_,_,bni⟩ :: a53
theorem bn4:Con prog 23 [ahk,.lst 4 [.agg [.v (.bool false),.v (.slice none 0 0),.v (.slice none 0 0),.v (.bool false)]],alk] [] (.tup [.ms 300 1 0 1,.v .nilIface]) [(300,some (.row 1 [.v (.int .i64 1)]))]:=ah1 ⟨orF a9j (asw (asn fb ah5 ah2)),feG prog,asy⟩ 6000 (base:=2000) (av:=[]) (by kernel_rfl)
def bat:List (Ent prog):=⟨_,_,_,_,bn4⟩ :: a9j
theorem bom:Con prog 113 [.agg [.v (.slice none 0 0)],.agg [.lst 3 [.agg [.v (.bool false),.lst 1 [.v (.int .u32 3)],.lst 1 [.v (.int .u32 1)]]],.lst 3 []],.agg [.lst 3 [.agg [.v (.bool false),.lst 1 [.v (.int .u32 4)],.lst 1 [.v (.int .u32 1)]]],.lst 3 []],.agg [.lst 3 [.agg [.v (.bool true),.lst 1 [.v (.int .u32 2)],.lst 1 [.v (.int .u32 1)]]],.lst 3 []]] [] (.tup [.v (.bool false),.v .nilIface]) []:=ah1 ⟨orF bat (asw (asn fb ah5 ah2)),feG prog,asy⟩ 6000 (base:=2000) (av:=[]) (by kernel_rfl)
def a9l:List (Ent prog):=⟨_,_,_,_,bom⟩ :: bat
theorem blc:Con prog 50 [ahk,alk,.agg [.v (.int .i64 1),.lst 1 [.v (.int .i64 2),.v (.int .i64 3)],.lst 1 [.v (.int .i64 1),.v (.int .i64 2),.v (.int .i64 3)],.v (.int .i64 0)]] [] (.tup [.v (.int .i64 2),.v .nilIface]) []:=ah1 ⟨orF a9l (asw (asn fb ah5 ah2)),feG prog,asy⟩ 6000 (base:=2000) (av:=[]) (by kernel_rfl)
def a7b:List (Ent prog):=⟨_,_,_,_,blc⟩ :: a9l
theorem bm7:Con prog 20 [ahk,.lst 4 [.agg [.v (.bool false),.v (.slice none 0 0),.v (.slice none 0 0),.v (.bool false)]],alk,.v (.int .i64 1)] [] (.tup [.v (.int .i64 2),.v .nilIface]) []:=ah1 ⟨orF a7b (asw (asn fb ah5 ah2)),feG prog,asy⟩ 6000 (base:=2000) (av:=[]) (by kernel_rfl)
def bi8:List (Ent prog):=⟨_,_,_,_,bm7⟩ :: a7b
theorem aq7:FnC prog 18 [] (bl true):=ah1 ⟨orF bi8 (asw (asn fb ah5 ah2)),feG prog,asy⟩ 6000 (base:=2000) (av:=[]) (by kernel_rfl)
end Go.Lw
namespace Go.Lw
open Go.Proofs
theorem bpz {p q:Bool} (h:cond (cond (!true) true (!p)) true (!q) = false):p = true /\ q = true:=by cases p <;> cases q <;> simp_all
theorem aym (l:Li) (hw:l.okw) (xs:List Tn) (hxw:∀ x ∈ xs, x.t.wok) (hxl:xs.length <= 281474976710656) (a:As) (ha:a.ok) (k:Int):FnC prog 4 [l.av, .lst 4 (xs.map Tn.av), .agg [.lst 1 (a.rs.map nR), .lst 4 (a.bs.map Pl.av), .lst 1 (a.ms.map i64), i64 k]] (bl true):=by
 refine gF0 func4 ?_
 refine gc aq7 ?_
 refine gcG (fun _=>(azd l hw xs hxl)) ?_
 refine gcG (fun _=>(az8 a ha)) ?_
 refine gC (fun ht25=>?_) (fun ht25=>?_)
 ·refine gc aq7 ?_
  refine gE1 ?_
  first | rfl | (simp; done)
 ·obtain ⟨h1, h2⟩:=bpz ht25
  obtain ⟨h3,h4,h5⟩:=a9s h1
  rw [all_eq_true] at h5
  have hl:=bin h3 hw
  have hxs:∀ x ∈ xs,x.t.ok /\ Qb 1000 x.t.q:=fun x hx=>bmb (h5 x hx) (hxw x hx)
  have al:=bmd h2 ha
  obtain ⟨K, E, hKE, hK1, hK2⟩:∃ (K:Int) (E:Nat), FnC prog 20 [l.av, .lst 4 (xs.map Tn.av), a.av, i64 k] (.tup [i64 K, ah7 E]) /\ (acE l xs a ≠ 0 -> K = 0 /\ E = acE l xs a) /\
    (acE l xs a = 0 -> K = (if 0 <= k /\ k < (splitG l).length then bix l a k.toNat else 0) /\ E = if 0 <= k /\ k < (splitG l).length then 0 else 9):=by
   refine ⟨_,_,azj l hl xs hxs hxl a al k,fun h=>⟨if_neg (fun h9=>h h9.1),if_pos h⟩,fun h=>⟨?_,if_neg (by omega)⟩⟩
   by_cases h8:0 <= k /\ k < (splitG l).length
   ·rw [if_pos ⟨h,h8⟩,if_pos h8]
   ·rw [if_neg (fun h=>h8 h.2),if_neg h8]
  refine gc hKE ?_
  refine gc (a31 l hl xs hxs hxl a al) ?_
  refine gC (fun ht44=>?_) (fun ht44=>?_)
  ·have h7:acE l xs a ≠ 0:=af6 ht44
   obtain ⟨hk1,hk2⟩:=hK1 h7
   subst hk1
   subst hk2
   refine gcG (fun _=>(as5 (acE l xs a))) ?_
   refine gE1 ?_
   simp [aaa]; rfl
  ·have h7:acE l xs a = 0:=af0 ht44
   obtain ⟨g1,g2,g3,g4⟩:=br8 h7
   have hg:=a10 hl g1 al g4
   obtain ⟨hk1,hk2⟩:=hK2 h7
   subst hk1
   subst hk2
   refine gc (a4s hg g2 g4 k) ?_
   refine gcG (fun _=>(as5 (if 0 <= k /\ k < (splitG l).length then 0 else 9))) ?_
   refine gE1 ?_
   by_cases h8:0 <= k /\ k < (splitG l).length <;> simp [aaa,h8] <;> rfl
end Go.Lw
namespace Go.Lw
open Go.Proofs Go.Proofs.YtkmgmddcmmadjaaGreat
open Go.ChangeShapes Go.WideShapes Go.ChangeAt Go.RowKit
abbrev bsi (q:As × Int):List AV:=[.lst 1 (q.1.rs.map nR),.lst 4 (q.1.bs.map Pl.av),.lst 1 (q.1.ms.map i64),i64 q.2]
theorem bci {W:World} {H:Type} {enc:TypeId × Value -> H}:ac4 prog W enc 53 (fun q:As × Int=>.agg (bsi q)) (fun q=>q.1.ok) :=
 (ab2 (n := 4) Tryz.underlying53 (by kernel_rfl)
  (.cons rfl (n:=3) (by kernel_rfl) bov (fun _=>rfl) (.cons rfl (n:=1) (by kernel_rfl) alw (fun _=>rfl) (.nil _))) (fun _=>rfl)).map
  (fun z=>(z.1,z.2.1)) _ _ (fun z h=>⟨h.1,rfl⟩)
set_option maxRecDepth 100000 in
theorem akj (os:Os) (started:os.Started) (H:Type) (enc:TypeId × Value -> H) :
  ReturnsInHanded {} Tryz.checked os 4 .any (Rows.singularKindsSpec.pre6 enc prog Tryz.f4 Rows.singularKindsRow.domain false) (Rows.singularKindsSpec.post enc prog Tryz.f4 false true false false):=by
 refine returnsInHanded_of_change_sized (C := Tryz.checked) own started (by kernel_rfl) func4
  (ChangeSpec.witness6 (enc:=enc) (C:=Tryz.checked) false ⟨#[],#[.agg #[.string ⟨#[]⟩,.slice none 0 0,.slice none 0 0,.slice none 0 0],.slice none 0 0,.agg #[.slice none 0 0,.slice none 0 0,.slice none 0 0,.int .i64 0]],[]⟩ 8 (by kernel_rfl) (by kernel_rfl) (by kernel_rfl) (by kernel_rfl)) ?_
 intro W base args ds gs before hval0 hW hcnd hwt0 _
 have hval:∀ (j:Nat) t v,Tryz.f4.params[j]? = some t -> args[j]? = some v -> Value.okWide prog W .any base t v:=hval0
 have hwt:(DataW.weightsEach prog (Tryz.f4.params.toList ++ Rows.singularKindsSpec.plain.varTypes prog) (ds ++ gs)).all (· <= reachBytes) = true:=hwt0
 have hW':=hW
 obtain ⟨p,q,hA0,hV,rfl,hfz,hnd⟩:=hW
 have hA:DataW.TrodAll enc prog W 0 (fun _=>true) true Tryz.f4.params.toList args.toList ds p:=hA0
 rw [Tryz.params4] at hA hval hwt
 obtain ⟨v0,v1,v2,d0,d1,d2,p0,p1,p2,rfl,rfl,rfl,h0,h1,h2⟩:=trodAll_three hA
 obtain ⟨rfl,rfl⟩:=trodVars_none hV
 clear hA0 hval0 hwt0
 have hlt:∀ x ∈ p0 ++ p1 ++ p2,x.block < W.heap.size:=fun x hx=>hW'.lt x (by simpa using hx)
 have hw0:∀ n ∈ d0.weights prog 26, n <= reachBytes:=fun n hn=>by
  have:=List.all_eq_true.1 hwt n (DataW.weights_mem_each (j:=0) rfl rfl n hn)
  simpa using this
 have hw1:∀ n ∈ d1.weights prog 27, n <= reachBytes:=fun n hn=>by
  have:=List.all_eq_true.1 hwt n (DataW.weights_mem_each (j:=1) rfl rfl n hn)
  simpa using this
 have hw2:∀ n ∈ d2.weights prog 53, n <= reachBytes:=fun n hn=>by
  have:=List.all_eq_true.1 hwt n (DataW.weights_mem_each (j:=2) rfl rfl n hn)
  simpa using this
 obtain ⟨x0,q0,r0⟩:=a54 Tryz.underlying26 bkg (hval 0 26 v0 rfl rfl) h0 hw0
 obtain ⟨x1,q1,r1⟩:=bkl bdt (fun _=>rfl) (avv Tryz.underlying27 (hval 1 27 v1 rfl rfl)) h1 hw1
 obtain ⟨x2,q2,r2⟩:=a54 Tryz.underlying53 bci (hval 2 53 v2 rfl rfl) h2 hw2
 have hc:=FnC.calls (W:=W) (vs:=#[v0, v1, v2]) (aym x0 q0 x1 q1.1 q1.2 x2.1 q2 x2.2) rfl (fun j v x hv hx=>by
  match j,hv,hx with
  | 0,hv,hx=>cases hv; cases hx; exact r0
  | 1,hv,hx=>cases hv; cases hx; exact r1
  | 2,hv,hx=>cases hv; cases hx; exact r2)
 refine hc.mono fun e W' ⟨he,hb⟩=>?_
 subst he
 refine ⟨_,rfl,auo hW' rfl rfl (fun _ _ _=>trodAll_mk1 (shut_bool Tryz.underlying4 _)) (fun sp hsp=>?_) rfl hb (ok_one (by kernel_rfl) rfl (okWide_bool_mk Tryz.underlying4 _))⟩
 rw [Tryz.params4]
 have hs:∀ x ∈ p0 ++ p1 ++ p2,sp x.block = true:=fun x hx=>hsp x (by simpa using hx)
 have g0:=aui (sp':=sp) (by kernel_rfl) (of_decide_eq_true (by kernel_rfl)) h0 hb (fun x hx=>hlt x (by simp [hx])) (fun x hx=>hs x (by simp [hx]))
 have g1:=aui (sp':=sp) (by kernel_rfl) (of_decide_eq_true (by kernel_rfl)) h1 hb (fun x hx=>hlt x (by simp [hx])) (fun x hx=>hs x (by simp [hx]))
 have g2:=aui (sp':=sp) (by kernel_rfl) (of_decide_eq_true (by kernel_rfl)) h2 hb (fun x hx=>hlt x (by simp [hx])) (fun x hx=>hs x (by simp [hx]))
 have g:=trodAll_mk3 g0 g1 g2
 rw [show p0 ++ p1 ++ p2 ++ [] = p0 ++ (p1 ++ p2) from by simp]
 exact g
set_option maxRecDepth 100000 in
theorem anv:prog.closure 4 = [4,18,29,60,129,189,269,324,377,263,266,265,326,381,327,272,262,325,378,383,380,330,379,329,328,382,395,331,30,61,80,155,65,138,222,290,291,358,139,212,273,228,232,297,294,298,360,361,318,362,363,359,364,365,230,221,220,274,227,231,140,223,224,292,143,226,296,141,240,300,366,389,368,392,393,391,301,367,390,370,369,302,156,241,130,179,131,62,64,137,144,145,229,293,295,136,142,225,120,180,201,202,63,132,213,214,134,133,82,158,178,96,181,121,203,204,205,206,122,123,69,159,252,308,160,254,319,253,309,315,376,310,371,311,372,373,312,374,375,394,313,314,316,317,161,95,215,275,334,258,384,396,397,276,162,173,94,86,164,166,165,256,56,320,255,321,257,322,171,167,170,277,177,259,91,168,197,174,87,288,357,388,88,169,85,335,278,216,84,163,175,279,336,385,337,281,280,338,349,350,351,40,339,386,172,352,347,343,353,344,340,341,342,387,345,346,348,286,355,356,282,289,217,90,92,283,218,93,176,89,284,354,285,287,135,219,23,22,49,81,157,243,244,303,304,57,245,242,247,248,305,306,307,196,246,250,251,249,55,39,83,20,50,112,113,14,7,33,34,71,147,235,234,236,72,148,182,260,261,323,267,73,149,150,237,192,210,264,188,268,332,183,74,35,75,151,76,152,238,153,239,299,154,36,77,19,37,78,79,12,42,97,43,98,110,194,207,125,195,271,208,209,211,190,126,127,184,124,99,108,59,128,118,200,109,101,27,58,185,47,100,186,198,199,53,48,111,52,187,119,106,105,44,104,102,193,191,270,333,103,13,21,45,51,114,115,116,117,107,54]:=by kernel_rfl
theorem akh:joinedFacts prog 4 Tryz.f4 Rows.singularKindsSpec Rows.singularKindsRow = true:=by
 unfold joinedFacts Program.recurses Program.inPlace Program.unfollowed Program.varsNamed
 rw [anv,a8f,bec,bcp,bi4,bc6,bdn]
 kernel_rfl
theorem singularKinds_holds:Rows.SingularKindsSaid :=
 OpenClaim.holds_of_wide 4 Tryz.f4 rfl rfl rfl rfl rfl rfl rfl ⟨rfl, rfl, rfl, rfl, rfl⟩ rfl rfl rfl rfl rfl (by kernel_rfl) func4 akh
  (of_decide_eq_true (by kernel_rfl)) (by unfold Func.isWrapper; first | (rw [if_pos (by decide +kernel)]; kernel_rfl) | (rw [if_neg (by decide +kernel)]; exact ⟨rfl,rfl⟩))
  (fun os started H enc _=>akj os started H enc)
end Go.Lw
namespace Go.Proofs.YtkmgmddcmmadjaaGreat
theorem singularKinds_proved:Rows.SingularKindsSaid:=Go.Lw.singularKinds_holds
end Go.Proofs.YtkmgmddcmmadjaaGreat
