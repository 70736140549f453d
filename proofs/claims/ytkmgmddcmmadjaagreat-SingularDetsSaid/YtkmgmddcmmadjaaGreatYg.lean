/- SingularDets: for any linkage, any turns and any assembly the law returns true and leaves its arguments as they were. No other condition. Part 7 of 7: the statement -/
import Derived.Test.YtkmgmddcmmadjaaGreatYf
import Derived.Laws.Pointers
set_option linter.unusedVariables false
open List (mem_of_getElem? mem_cons_of_mem mem_append map_cons mem_cons length_cons mem_cons_self length_nil getD_eq_getElem?_getD all_eq_true getElem?_take nil_append map_append length_take length_map not_mem_nil mem_of_mem_take map_map)
open Nat (eq_of_beq_eq_true le_refl le_trans zero_le)
open Bool (and_eq_true)
open Int (toNat_natCast)
open Go.Proofs.Tryz
namespace Go.Lw
open Go.Proofs
abbrev qN (p:Rat × Rat):AV:=ptA (sh 0 (p.1:Rat)) (sh 0 (p.2:Rat))
abbrev eN {ts:List (List Rat)} (p:Et ts × Et ts):AV:=ptA (sX p.1) (sX p.2)
theorem agm {l:Li} (hl:l.ok) (hli:liE l = 0) {body pt:Int} (h1:inB body l.bodies.length = true) (h2:inB pt (aea l body).length = true):FnC prog 116 [l.av, i64 body, i64 pt] (qN (mkQ l body pt)):=by
 obtain ⟨n,k,bd,m,mp⟩:=bdu hl hli h1 h2
 have hn:=mp.hn
 have hk:=mp.hk
 have hlb:=hl.lb
 have ho:=a07 (mp.sm.x.qs (by omega)) (mp.sm.y.qs (by omega))
 have ho:FnC prog 199 [m.x.av,m.y.av] (qN (mkQ l body pt)):=by rw [mp.ex,mp.ey]; exact ho
 refine gF0 func116 ?_
 refine gi (ad4 (n:=n) hn mp.gbd) ?_
 refine gi (ad4 (n:=k) hk mp.gm) ?_
 refine gc ho ?_
 refine gE1 ?_
 rfl
theorem amo {l:Li} {a:As} (D:DyR l a) {body pt:Int} (h1:inB body l.bodies.length = true) (h2:inB pt (aea l body).length = true) (hb:Pd a body) :
  FnC prog 115 [l.av,a.av,i64 body,i64 pt] (eN (plE l a body pt)):=by
 obtain ⟨n,k,bd,m,b,hp⟩:=bis D.hl D.li D.al D.hc h1 h2 hb
 obtain ⟨tw,hta⟩:=ab3 D.al.tr D.hc
 have kb:=kb4 tw.three
 have hlm:=adm (llq a.rs).length
 have hlb:=D.hl.lb
 have hbl:=D.al.bl
 show FnC prog _ _ (ptA (sh (llq a.rs).length (aoq l a body pt).1) (sh (llq a.rs).length (aoq l a body pt).2))
 rw [hp.eq]
 have hn:=hp.mp.hn
 have hk:=hp.mp.hk
 have hat:FnC prog 198 [ae2 a.rs, b.av, m.x.av, m.y.av] (ptA (sh (llq a.rs).length (atP (llq a.rs) b m).1) (sh (llq a.rs).length (atP (llq a.rs) b m).2)):=by
  rw [hta,hp.av,hp.mp.ex,hp.mp.ey]
  have h9:=a1h tw hp.ok.c hp.ok.s hp.ok.x hp.ok.y (hp.mp.sm.x.mono (f:=4000) (by omega)) (hp.mp.sm.y.mono (f:=4000) (by omega)) (by omega)
  unfold atP
  rw [hp.mp.ex,hp.mp.ey,agk,agk]
  exact h9
 refine gF0 func115 ?_
 refine gi (ad4 (n:=n) hn hp.mp.gbd) ?_
 refine gi (ad4 (n:=k) hk hp.mp.gm) ?_
 refine gi (ad4 (n:=n) hn hp.gb) ?_
 refine gc hat ?_
 refine gD ?_
 refine gE1 ?_
 rfl
theorem age (j:Jt) (b:Int):FnC prog 114 [j.av, i64 b] (.tup [i64 (sdP j b), i64 (sdB j b), i64 (sdQ j b)]):=by
 refine gF0 func114 ?_
 refine gC (fun ht10=>?_) (fun ht10=>?_)
 ·have e:j.a = b:=aek ht10
  refine gD ?_
  refine gE3 ?_
  unfold sdP sdB sdQ; rw [if_pos e,if_pos e,if_pos e]
 ·have e:j.a ≠ b:=ae9 ht10
  refine gD ?_
  refine gE3 ?_
  unfold sdP sdB sdQ; rw [if_neg e,if_neg e,if_neg e]
theorem agw {l:Li} {a:As} (D:DyR l a) {n:Nat} {j:Jt} (hj:l.joints[n]? = some j) {b:Int} (h:PinP l a j b):FnC prog 115 [l.av, a.av, i64 (sdB j b), i64 (sdQ j b)] (eN (ae4 l a j b)):=by
 obtain ⟨i1,i2,i3,i4,_⟩:=afv D.li hj
 unfold ae4 sdB sdQ
 rcases h.tie with ⟨e,hb⟩ | ⟨e,e2,hb⟩
 ·rw [if_pos e,if_pos e,if_pos e]; exact amo D i2 i4 hb
 ·rw [if_neg e,if_neg e,if_neg e]; exact amo D i1 i3 hb
theorem aeq {l:Li} (hl:l.ok) (hli:liE l = 0) {n:Nat} {j:Jt} (hj:l.joints[n]? = some j) {b:Int} (h:j.a = b \/ j.b = b):FnC prog 116 [l.av, i64 b, i64 (sdP j b)] (qN (ag7 l j b)):=by
 obtain ⟨i1,i2,i3,i4,_⟩:=afv hli hj
 unfold ag7 sdP
 by_cases e:j.a = b
 ·rw [if_pos e,if_pos e]; subst e; exact agm hl hli i1 i3
 ·rw [if_neg e, if_neg e]
  rcases h with h | h
  ·exact absurd h e
  ·subst h; exact agm hl hli i2 i4
theorem ayh {l:Li} (hl:l.ok) (hli:liE l = 0) {n:Nat} {j:Jt} (hj:l.joints[n]? = some j) {i k:Int} (ne:i ≠ k) (t1:j.a = i \/ j.b = i) (t2:j.a = k \/ j.b = k):FnC prog 116 [l.av, i64 k, i64 (sdQ j i)] (qN (ag7 l j k)):=by
 obtain ⟨i1,i2,i3,i4,_⟩:=afv hli hj
 unfold ag7 sdQ
 by_cases e:j.a = i
 ·rw [if_pos e, if_neg (by omega)]
  obtain rfl:j.b = k:=by omega
  exact agm hl hli i2 i4
 ·rw [if_neg e, if_pos (by omega)]
  obtain rfl:j.a = k:=by omega
  exact agm hl hli i1 i3
abbrev nl:AV:=.v (.slice none 0 0)
abbrev z2C:List AV:=[nl,nl]
abbrev qNC (p:Rat × Rat):List AV:=[nA (sh 0 (p.1:Rat)),nA (sh 0 (p.2:Rat))]
abbrev eNC {ts:List (List Rat)} (p:Et ts × Et ts):List AV:=[nA (sX p.1),nA (sX p.2)]
abbrev v1C (l:Li) (a:As) (i k:Int) (j0 j1 j2:Jt):List AV :=
  [i64 1, i64 i, i64 k] ++ (eNC (ae4 l a j0 i) ++ (eNC (ae4 l a j1 k) ++ (qNC (ag7 l j0 i) ++ (qNC (ag7 l j1 k) ++ (qNC (ag7 l j2 i) ++ (qNC (ag7 l j2 k) ++ (z2C ++ (z2C ++
    ([nA (sX (d2E (qv (ag7 l j2 i)) (qv (ag7 l j0 i)):Et (llq a.rs))),nA (sX (d2E (qv (ag7 l j2 k)) (qv (ag7 l j1 k)):Et (llq a.rs)))] ++ (z2C ++ [nl,nl,nA (sX (d2E (ae4 l a j1 k) (ae4 l a j0 i)))]))))))))))
abbrev v2C (l:Li) (a:As) (i:Int) (j0 j:Jt):List AV :=
  [i64 2, i64 i, i64 0] ++ (eNC (ae4 l a j0 i) ++ (z2C ++ (qNC (ag7 l j0 i) ++ (z2C ++ (qNC (mkQ l i j.point) ++ (z2C ++ (eNC (plE l a j.b j.on) ++ (eNC (plE l a j.b j.to) ++
    ([nA (sX (d2E (qv (mkQ l i j.point)) (qv (ag7 l j0 i)):Et (llq a.rs))),nl] ++ (eNC (sbE (plE l a j.b j.to) (plE l a j.b j.on)) ++ [nl,nl,nl]))))))))))
abbrev v3C (l:Li) (a:As) (i:Int) (j0 j:Jt):List AV :=
  [i64 3, i64 i, i64 0] ++ (eNC (ae4 l a j0 i) ++ (eNC (plE l a j.a j.point) ++ (qNC (ag7 l j0 i) ++ (z2C ++ (z2C ++ (z2C ++ (qNC (mkQ l i j.on) ++ (qNC (mkQ l i j.to) ++
    ([nl, nl] ++ (eNC (sbE (qv (mkQ l i j.to)) (qv (mkQ l i j.on)):Et (llq a.rs) × Et (llq a.rs)) ++
      [nA (sX (bj7 (sbE (qv (mkQ l i j.to)) (qv (mkQ l i j.on))) (sbE (qv (mkQ l i j.on)) (qv (ag7 l j0 i))):Et (llq a.rs))),nA (sX (a5d (sbE (qv (mkQ l i j.to)) (qv (mkQ l i j.on))) (sbE (qv (mkQ l i j.to)) (qv (mkQ l i j.on))):Et (llq a.rs))),nA (sX (d2E (plE l a j.a j.point) (ae4 l a j0 i)))]))))))))))
abbrev v0C (l:Li) (a:As) (i:Int) (j0:Jt):List AV :=
  [i64 0,i64 i,i64 0] ++ (eNC (ae4 l a j0 i) ++ (z2C ++ (qNC (ag7 l j0 i) ++ (z2C ++ (z2C ++ (z2C ++ (z2C ++ (z2C ++ ([nl,nl] ++ (z2C ++ [nl,nl,nl]))))))))))
section
variable {ts:List (List Rat)} {a b a2 b2:List Rat} {x y x2 y2:Et ts}
theorem a1t {u k w v w' v' w2 v2 w3 v3 : Nat} [c : Ct ts u k] [ha : Zl ts u k a x w v] [hb : Zl ts u k b y w' v'] [ha2 : Zl ts u k a2 x2 w2 v2] [hb2 : Zl ts u k b2 y2 w3 v3] (h : 2 * (w + v + (w' + v') + (w2 + v2 + (w3 + v3))) + 4 <= 2500 := by decide) :
  FnC prog 117 [ad9 ts,ptA a b,ptA a2 b2] (nA (sX (d2E (x,y) (x2,y2)))):=by
 haveI:=ha.zu
 haveI:=hb.zu
 haveI:=ha2.zu
 haveI:=hb2.zu
 have h1:=asb (ts:=ts) (a:=a) (b:=b) (a2:=a2) (b2:=b2) (by omega)
 have h2:=a7i (ts:=ts) (a:=sX (x - x2)) (b:=sX (y - y2)) (a2:=sX (x - x2)) (b2:=sX (y - y2)) (by omega)
 refine gF0 func117 ?_
 refine gc h1 ?_
 refine gc h2 ?_
 refine gE1 ?_
 rfl
end
theorem awv {ts:List (List Rat)} (c:Ct ts 4000 300000) {p:Rat × Rat} (hp:Sm 1000 p):Zl ts 4000 300000 (sh 0 (p.1:Rat)) (qE p.1) 1 0 /\ Zl ts 4000 300000 (sh 0 (p.2:Rat)) (qE p.2) 1 0:=by
 haveI:=c
 haveI:=bn6 (w:=1) (hp.x) (by omega)
 haveI:=bn6 (w:=1) (hp.y) (by omega)
 exact ⟨inferInstance,inferInstance⟩
theorem bgk {a:As} {l:Li} (D:DyR l a) {p q:Rat × Rat} (hp:Sm 1000 p) (hq:Sm 1000 q):FnC prog 117 [ae2 a.rs, qN p, qN q] (nA (sX (d2E (qv p) (qv q):Et (llq a.rs)))):=by
 haveI c:=D.al.ct D.hc
 obtain ⟨z1,z2⟩:=awv c hp
 obtain ⟨z3,z4⟩:=awv c hq
 have h:=a1t (ts:=llq a.rs) (u:=4000) (k:=300000) (a:=sh 0 (p.1:Rat)) (b:=sh 0 (p.2:Rat)) (a2:=sh 0 (q.1:Rat)) (b2:=sh 0 (q.2:Rat)) (by decide)
 rw [<- (ab3 D.al.tr D.hc).2] at h
 exact h
theorem bm7 {a:As} {l:Li} (D:DyR l a) {p q:Et (llq a.rs) × Et (llq a.rs)} (h1:Zu 4000 300000 p.1 40 40) (h2:Zu 4000 300000 p.2 40 40) (h3:Zu 4000 300000 q.1 40 40) (h4:Zu 4000 300000 q.2 40 40) :
  FnC prog 117 [ae2 a.rs,eN p,eN q] (nA (sX (d2E p q))):=by
 haveI c:=D.al.ct D.hc
 haveI:=h1; haveI:=h2; haveI:=h3; haveI:=h4
 have h:=a1t (ts:=llq a.rs) (u:=4000) (k:=300000) (a:=sX p.1) (b:=sX p.2) (a2:=sX q.1) (b2:=sX q.2) (by decide)
 rw [<- (ab3 D.al.tr D.hc).2] at h
 exact h
theorem amn {l:Li} {a:As} {j:Jt} {b:Int} (p0:PinP l a j b):j.a = b \/ j.b = b:=by rcases p0.tie with h9 | h9; exact .inl h9.1; exact .inr h9.2.1
theorem a39 {l:Li} {a:As} (D:DyR l a) {n:Nat} {i k z0 z1 z2:Int} {j0 j1 j2:Jt} (hG:(splitG l)[n]? = some ⟨1, [i, k], [z0, z1, z2], 0⟩) (hgo:GrOk l ⟨1, [i, k], [z0, z1, z2], 0⟩) (P:RrrP l a ⟨1, [i, k], [z0, z1, z2], 0⟩ i k z0 z1 z2 j0 j1 j2) (ne:i ≠ k) :
  FnC prog 51 [l.av,i64 n,a.av] (.agg (v1C l a i k j0 j1 j2)):=by
 have hsl:=ahw D.li
 have hlj:=D.hl.lj
 have hj0:=(hgo.j z0 (by simp)).1
 have hj1:=(hgo.j z1 (by simp)).1
 have hj2:=(hgo.j z2 (by simp)).1
 have q0:=akm D.hl D.li P.h0 (amn P.p0)
 have q1:=akm D.hl D.li P.h1 (amn P.p1)
 have q2:=akm D.hl D.li P.h2 P.t1
 have q3:=akm D.hl D.li P.h2 P.t2
 obtain ⟨y1,y2⟩:=af6 D.hl D.li D.al D.hc P.h0 P.p0
 obtain ⟨y3,y4⟩:=af6 D.hl D.li D.al D.hc P.h1 P.p1
 refine gF0 func51 ?_
 refine gc (adv l D.hl D.li) ?_
 refine gi (aaf hG) ?_
 refine gi (rfl) ?_
 refine gD ?_
 refine gi (rfl) ?_
 refine gi (ad4 (n:=z0.toNat) (by omega) P.h0) ?_
 refine gc (age j0 i) ?_
 refine gD ?_
 refine gc (agw D P.h0 P.p0) ?_
 refine gc (aeq D.hl D.li P.h0 (amn P.p0)) ?_
 refine gD ?_
 refine gC (fun ht64=>?_) (fun ht64=>?_) (st2:=(16,0))
 ·refine gi (rfl) ?_
  refine gi (rfl) ?_
  refine gi (ad4 (n:=z1.toNat) (by omega) P.h1) ?_
  refine gc (age j1 k) ?_
  refine gD ?_
  refine gc (agw D P.h1 P.p1) ?_
  refine gc (aeq D.hl D.li P.h1 (amn P.p1)) ?_
  refine gD ?_
  refine gi (rfl) ?_
  refine gi (ad4 (n:=z2.toNat) (by omega) P.h2) ?_
  refine gc (age j2 i) ?_
  refine gD ?_
  refine gc (aeq D.hl D.li P.h2 P.t1) ?_
  refine gc (ayh D.hl D.li P.h2 ne P.t1 P.t2) ?_
  refine gD ?_
  refine gc (bgk D q2 q0) ?_
  refine gc (bgk D q3 q1) ?_
  refine gD ?_
  refine gc (bm7 D y3 y4 y1 y2) ?_
  refine gE1 ?_
  rfl
 ·cases ht64
theorem a3e {l:Li} {a:As} (D:DyR l a) {n:Nat} {i z0 z1:Int} {j0 j:Jt} (hG:(splitG l)[n]? = some ⟨2, [i], [z0, z1], 0⟩) (hgo:GrOk l ⟨2, [i], [z0, z1], 0⟩) (P:SlP l a ⟨2, [i], [z0, z1], 0⟩ 2 i z0 z1 j0 j) (ha:j.a = i) (hb:Pd a j.b) :
  FnC prog 51 [l.av,i64 n,a.av] (.agg (v2C l a i j0 j)):=by
 have hsl:=ahw D.li
 have hlj:=D.hl.lj
 have hj0:=(hgo.j z0 (by simp)).1
 have hj1:=(hgo.j z1 (by simp)).1
 have q0:=akm D.hl D.li P.h0 (amn P.p0)
 obtain ⟨i1,i2,i3,i4,i5⟩:=afv D.li P.h1
 have hown:FnC prog 116 [l.av,i64 i,i64 j.point] (qN (mkQ l i j.point)):=by rw [<- ha]; exact agm D.hl D.li i1 i3
 have q2:Sm 1000 (mkQ l i j.point):=by rw [<- ha]; exact alw D.hl D.li i1 i3
 obtain ⟨y3,y4⟩:=afq D.hl D.li D.al D.hc i2 (i5 P.hk) hb
 obtain ⟨y7,y8⟩:=afq D.hl D.li D.al D.hc i2 i4 hb
 haveI c:=D.al.ct D.hc
 haveI:=y3; haveI:=y4; haveI:=y7; haveI:=y8
 have hs:=asb (ts:=llq a.rs) (u:=4000) (k:=300000) (a:=sX (plE l a j.b j.to).1) (b:=sX (plE l a j.b j.to).2) (a2:=sX (plE l a j.b j.on).1) (b2:=sX (plE l a j.b j.on).2)
 rw [<- (ab3 D.al.tr D.hc).2] at hs
 refine gF0 func51 ?_
 refine gc (adv l D.hl D.li) ?_
 refine gi (aaf hG) ?_
 refine gi (rfl) ?_
 refine gD ?_
 refine gi (rfl) ?_
 refine gi (ad4 (n:=z0.toNat) (by omega) P.h0) ?_
 refine gc (age j0 i) ?_
 refine gD ?_
 refine gc (agw D P.h0 P.p0) ?_
 refine gc (aeq D.hl D.li P.h0 (amn P.p0)) ?_
 refine gD ?_
 refine gC (fun ht64=>?_) (fun ht64=>?_) (st1:=(9,0))
 ·cases ht64
 ·refine gC (fun ht146=>?_) (fun ht146=>?_) (st2:=(21, 0))
  ·refine gi (rfl) ?_
   refine gi (ad4 (n:=z1.toNat) (by omega) P.h1) ?_
   refine gD ?_
   refine gc (amo D i2 i4 hb) ?_
   refine gc (amo D i2 (i5 P.hk) hb) ?_
   refine gc hown ?_
   refine gD ?_
   refine gc (bgk D q2 q0) ?_
   refine gc hs ?_
   refine gE1 ?_
   rfl
  ·cases ht146
theorem a25 {l:Li} {a:As} (D:DyR l a) {n:Nat} {i z0 z1:Int} {j0 j:Jt} (hG:(splitG l)[n]? = some ⟨3, [i], [z0, z1], 0⟩) (hgo:GrOk l ⟨3, [i], [z0, z1], 0⟩) (P:SlP l a ⟨3, [i], [z0, z1], 0⟩ 3 i z0 z1 j0 j) (hj:j.b = i) (hb:Pd a j.a) :
  FnC prog 51 [l.av,i64 n,a.av] (.agg (v3C l a i j0 j)):=by
 have hsl:=ahw D.li
 have hlj:=D.hl.lj
 have hj0:=(hgo.j z0 (by simp)).1
 have hj1:=(hgo.j z1 (by simp)).1
 have q0:=akm D.hl D.li P.h0 (amn P.p0)
 obtain ⟨i1,i2,i3,i4,i5⟩:=afv D.li P.h1
 have ho1:FnC prog 116 [l.av,i64 i,i64 j.on] (qN (mkQ l i j.on)):=by rw [<- hj]; exact agm D.hl D.li i2 i4
 have ho2:FnC prog 116 [l.av,i64 i,i64 j.to] (qN (mkQ l i j.to)):=by rw [<- hj]; exact agm D.hl D.li i2 (i5 P.hk)
 have q1:Sm 1000 (mkQ l i j.on):=by rw [<- hj]; exact alw D.hl D.li i2 i4
 have q2:Sm 1000 (mkQ l i j.to):=by rw [<- hj]; exact alw D.hl D.li i2 (i5 P.hk)
 obtain ⟨y1,y2⟩:=af6 D.hl D.li D.al D.hc P.h0 P.p0
 obtain ⟨y3,y4⟩:=afq D.hl D.li D.al D.hc i1 i3 hb
 haveI c:=D.al.ct D.hc
 obtain ⟨x1,x2⟩:=awv c q0
 obtain ⟨x3,x4⟩:=awv c q1
 obtain ⟨x5,x6⟩:=awv c q2
 haveI:=x1.zu; haveI:=x2.zu; haveI:=x3.zu; haveI:=x4.zu; haveI:=x5.zu; haveI:=x6.zu
 have s1:=asb (ts:=llq a.rs) (u:=4000) (k:=300000) (a:=sh 0 ((mkQ l i j.to).1:Rat)) (b:=sh 0 ((mkQ l i j.to).2:Rat)) (a2:=sh 0 ((mkQ l i j.on).1:Rat)) (b2:=sh 0 ((mkQ l i j.on).2:Rat))
 have s2:=a7i (ts:=llq a.rs) (u:=4000) (k:=300000) (a:=sX (qE (mkQ l i j.to).1 - qE (mkQ l i j.on).1:Et (llq a.rs))) (b:=sX (qE (mkQ l i j.to).2 - qE (mkQ l i j.on).2:Et (llq a.rs))) (a2:=sX (qE (mkQ l i j.to).1 - qE (mkQ l i j.on).1:Et (llq a.rs))) (b2:=sX (qE (mkQ l i j.to).2 - qE (mkQ l i j.on).2:Et (llq a.rs)))
 have s3:=asb (ts:=llq a.rs) (u:=4000) (k:=300000) (a:=sh 0 ((mkQ l i j.on).1:Rat)) (b:=sh 0 ((mkQ l i j.on).2:Rat)) (a2:=sh 0 ((ag7 l j0 i).1:Rat)) (b2:=sh 0 ((ag7 l j0 i).2:Rat))
 have s4:=a1x (ts:=llq a.rs) (u:=4000) (k:=300000) (a:=sX (qE (mkQ l i j.to).1 - qE (mkQ l i j.on).1:Et (llq a.rs))) (b:=sX (qE (mkQ l i j.to).2 - qE (mkQ l i j.on).2:Et (llq a.rs))) (a2:=sX (qE (mkQ l i j.on).1 - qE (ag7 l j0 i).1:Et (llq a.rs))) (b2:=sX (qE (mkQ l i j.on).2 - qE (ag7 l j0 i).2:Et (llq a.rs)))
 rw [<- (ab3 D.al.tr D.hc).2] at s1 s2 s3 s4
 refine gF0 func51 ?_
 refine gc (adv l D.hl D.li) ?_
 refine gi (aaf hG) ?_
 refine gi (rfl) ?_
 refine gD ?_
 refine gi (rfl) ?_
 refine gi (ad4 (n:=z0.toNat) (by omega) P.h0) ?_
 refine gc (age j0 i) ?_
 refine gD ?_
 refine gc (agw D P.h0 P.p0) ?_
 refine gc (aeq D.hl D.li P.h0 (amn P.p0)) ?_
 refine gD ?_
 refine gC (fun ht64=>?_) (fun ht64=>?_) (st1:=(9,0))
 ·cases ht64
 ·refine gC (fun ht146=>?_) (fun ht146=>?_) (st1:=(17, 0))
  ·cases ht146
  ·refine gC (fun ht193=>?_) (fun ht193=>?_) (st2:=(77777, 0))
   ·refine gi (rfl) ?_
    refine gi (ad4 (n:=z1.toNat) (by omega) P.h1) ?_
    refine gD ?_
    refine gc (amo D i1 i3 hb) ?_
    refine gc ho1 ?_
    refine gc ho2 ?_
    refine gD ?_
    refine gc s1 ?_
    refine gc s2 ?_
    refine gc s3 ?_
    refine gc s4 ?_
    refine gD ?_
    refine gc (bm7 D y3 y4 y1 y2) ?_
    refine gE1 ?_
    rfl
   ·cases ht193
theorem a2z {l:Li} {a:As} (D:DyR l a) {n:Nat} {i z0 d:Int} {j0:Jt} (hG:(splitG l)[n]? = some ⟨0, [i], [z0], d⟩) (hgo:GrOk l ⟨0, [i], [z0], d⟩) (h0:l.joints[z0.toNat]? = some j0) (p0:PinP l a j0 i) :
  FnC prog 51 [l.av,i64 n,a.av] (.agg (v0C l a i j0)):=by
 have hsl:=ahw D.li
 have hlj:=D.hl.lj
 have hj0:=(hgo.j z0 (by simp)).1
 refine gF0 func51 ?_
 refine gc (adv l D.hl D.li) ?_
 refine gi (aaf hG) ?_
 refine gi (rfl) ?_
 refine gD ?_
 refine gi (rfl) ?_
 refine gi (ad4 (n:=z0.toNat) (by omega) h0) ?_
 refine gc (age j0 i) ?_
 refine gD ?_
 refine gc (agw D h0 p0) ?_
 refine gc (aeq D.hl D.li h0 (amn p0)) ?_
 refine gD ?_
 refine gC (fun ht64=>?_) (fun ht64=>?_) (st1:=(9,0))
 ·cases ht64
 ·refine gC (fun ht146=>?_) (fun ht146=>?_) (st1:=(17, 0))
  ·cases ht146
  ·refine gC (fun ht193=>?_) (fun ht193=>?_) (st1:=(22, 0))
   ·cases ht193
   ·refine gE1 ?_
    rfl
end Go.Lw
namespace Go.Lw
open Go.Proofs
section
variable {ts:List (List Rat)} {a b c a2 b2 c2:List Rat} {x y z x2 y2 z2:Et ts}
end
theorem DyOk.drv {l:Li} {k:Int} {a:As} {own:Bool} {n:Nat} {g:Gr} (h:DyOk l k a own n g) (hk:g.kind = 0):∃ i z0 d j0, g = ⟨0, [i], [z0], d⟩ /\ l.joints[z0.toNat]? = some j0 /\ PinP l a j0 i:=by
 have hd:=h.dy
 cases hd with
 | rrr _ _ _ _ _ _ _=>exact absurd hk (by simp)
 | pr _ _ _=>exact absurd hk (by simp)
 | rp _ _ _=>exact absurd hk (by simp)
 | @drv b z d j x t d0 hd hb=>exact ⟨b,z,d,j,rfl,t.hj,h.pin rfl t (by simp) (by simp)⟩
theorem aij {l:Li} {a:As} (D:DyR l a) {b:Int} {p:Pl} (hp:a.bs[b.toNat]? = some p) (hn:aa0 a.rs p.l = 0) {q:Rat × Rat} (hq:Sm 1000 q) :
  FnC prog 107 [ae2 a.rs,p.av,qN q] (eN (aoE a b q)):=by
 obtain ⟨tw,hta⟩:=ab3 D.al.tr D.hc
 have h5:a.rs.length <= 5:=by have:=tw.five; rwa [ajt] at this
 have h9:=aie hn (D.al.nr p (mem_of_getElem? hp)) h5
 have kb:=kb4 tw.three
 have hlm:=adm (llq a.rs).length
 obtain ⟨e1,ok⟩:=h9
 rw [<- ajt a.rs] at ok
 have nx:=Nm.ofQ ok.c.five (Cb.one (hq.x.mono (f:=4000) (by omega)))
 have ny:=Nm.ofQ ok.c.five (Cb.one (hq.y.mono (f:=4000) (by omega)))
 have nX:=amq tw ok.c ok.s nx ny
 have nY:=alq tw ok.c ok.s nx ny
 obtain ⟨K,hK⟩:∃ K,kB 40000 (llq a.rs).length = K:=⟨_,rfl⟩
 rw [hK] at nX nY kb
 have hadd:=au9 (e:=2 * (4000 + 4000 + K) + 1) tw nX nY (ok.x.mono (by omega)) (ok.y.mono (by omega)) (by omega)
 have htn:=ar8 tw ok.c ok.s nx ny (by rw [hK]; omega)
 rw [avq,avk] at hadd
 rw [<- hta] at hadd htn
 unfold aoE
 rw [aag hp,e1]
 refine gF0 func107 ?_
 refine gc htn ?_
 refine gc hadd ?_
 refine gD ?_
 refine gE1 ?_
 rfl
end Go.Lw
namespace Go.Lw
open Go.Proofs
theorem bgx {ts:List (List Rat)} (c:Ct ts 4000 300000) {p q m n:Et ts × Et ts} (y1:Zu 4000 300000 p.1 40 40) (y2:Zu 4000 300000 p.2 40 40) (y3:Zu 4000 300000 q.1 40 40) (y4:Zu 4000 300000 q.2 40 40)
  (y5:Zu 4000 300000 m.1 40 40) (y6:Zu 4000 300000 m.2 40 40) (y7:Zu 4000 300000 n.1 40 40) (y8:Zu 4000 300000 n.2 40 40) :
  FnC prog 106 [ad9 ts,eN p,eN q] (eN (sbE p q)) /\ FnC prog 106 [ad9 ts,eN m,eN n] (eN (sbE m n)) /\
  FnC prog 105 [ad9 ts,eN (sbE p q),eN (sbE m n)] (nA (sX (bj7 (sbE p q) (sbE m n)))) /\ FnC prog 108 [ad9 ts,eN (sbE p q),eN (sbE m n)] (nA (sX (a5d (sbE p q) (sbE m n)))):=by
 haveI:=c; haveI:=y1; haveI:=y2; haveI:=y3; haveI:=y4; haveI:=y5; haveI:=y6; haveI:=y7; haveI:=y8
 have s1:=asb (ts:=ts) (u:=4000) (k:=300000) (a:=sX p.1) (b:=sX p.2) (a2:=sX q.1) (b2:=sX q.2)
 have s2:=asb (ts:=ts) (u:=4000) (k:=300000) (a:=sX m.1) (b:=sX m.2) (a2:=sX n.1) (b2:=sX n.2)
 have s3:=a1x (ts:=ts) (u:=4000) (k:=300000) (a:=sX (p.1 - q.1)) (b:=sX (p.2 - q.2)) (a2:=sX (m.1 - n.1)) (b2:=sX (m.2 - n.2))
 have s4:=a7i (ts:=ts) (u:=4000) (k:=300000) (a:=sX (p.1 - q.1)) (b:=sX (p.2 - q.2)) (a2:=sX (m.1 - n.1)) (b2:=sX (m.2 - n.2))
 exact ⟨s1,s2,s3,s4⟩
theorem a2y {l:Li} {a:As} (D:DyR l a) {kk:Int} {n:Nat} {i k z0 z1 z2:Int} {j0 j1 j2:Jt} (ok:DyOk l kk a true n ⟨1, [i, k], [z0, z1, z2], 0⟩) (P:RrrP l a ⟨1, [i, k], [z0, z1, z2], 0⟩ i k z0 z1 z2 j0 j1 j2) :
  FnC prog 45 [l.av,i64 n,a.av] (nA (sX (asi l a ⟨1,[i,k],[z0,z1,z2],0⟩))):=by
 have hbl:=D.al.bl
 have hi0:=(ok.ok.b i (by simp)).1
 obtain ⟨p,hp,hn⟩:=ok.own (b:=i) (by simp)
 have hil:=(List.getElem?_eq_some_iff.1 hp).1
 have q2:=akm D.hl D.li P.h2 P.t1
 obtain ⟨y1,y2⟩:=af6 D.hl D.li D.al D.hc P.h0 P.p0
 obtain ⟨y3,y4⟩:=af6 D.hl D.li D.al D.hc P.h1 P.p1
 obtain ⟨y5,y6⟩:=ar1 D.al D.hc (ok.own (b:=i) (by simp)) q2
 have c:=D.al.ct D.hc
 obtain ⟨s1,s2,s3,_⟩:=bgx c y3 y4 y1 y2 y5 y6 y1 y2
 rw [<- (ab3 D.al.tr D.hc).2] at s1 s2 s3
 rw [bft P]
 refine gF0 func45 ?_
 refine gc (a39 D ok.hg ok.ok P ok.ne) ?_
 refine gD ?_
 refine gi (ad4 (n:=i.toNat) (by omega) hp) ?_
 refine gC (fun ht24=>?_) (fun ht24=>?_) (st2:=(6,0))
 ·refine gc s1 ?_
  refine gc (aij D hp hn q2) ?_
  refine gc s2 ?_
  refine gc s3 ?_
  refine gD ?_
  refine gE1 ?_
  rfl
 ·cases ht24
theorem a3h {l:Li} {a:As} (D:DyR l a) {kk:Int} {n:Nat} {i z0 z1:Int} {j0 j:Jt} (ok:DyOk l kk a true n ⟨2, [i], [z0, z1], 0⟩) (P:SlP l a ⟨2, [i], [z0, z1], 0⟩ 2 i z0 z1 j0 j) (ha:j.a = i) (hb:Pd a j.b) :
  FnC prog 45 [l.av,i64 n,a.av] (nA (sX (asi l a ⟨2,[i],[z0,z1],0⟩))):=by
 have hbl:=D.al.bl
 have hi0:=(ok.ok.b i (by simp)).1
 obtain ⟨p,hp,hn⟩:=ok.own (b:=i) (by simp)
 have hil:=(List.getElem?_eq_some_iff.1 hp).1
 obtain ⟨i1,i2,i3,i4,i5⟩:=afv D.li P.h1
 have q2:Sm 1000 (mkQ l i j.point):=by rw [<- ha]; exact alw D.hl D.li i1 i3
 obtain ⟨y1,y2⟩:=af6 D.hl D.li D.al D.hc P.h0 P.p0
 obtain ⟨y3,y4⟩:=afq D.hl D.li D.al D.hc i2 (i5 P.hk) hb
 obtain ⟨y7,y8⟩:=afq D.hl D.li D.al D.hc i2 i4 hb
 obtain ⟨y5,y6⟩:=ar1 D.al D.hc (ok.own (b:=i) (by simp)) q2
 have c:=D.al.ct D.hc
 obtain ⟨s1,s2,_,s4⟩:=bgx c y3 y4 y7 y8 y5 y6 y1 y2
 rw [<- (ab3 D.al.tr D.hc).2] at s1 s2 s4
 rw [bfb P]
 refine gF0 func45 ?_
 refine gc (a3e D ok.hg ok.ok P ha hb) ?_
 refine gD ?_
 refine gi (ad4 (n:=i.toNat) (by omega) hp) ?_
 refine gC (fun ht24=>?_) (fun ht24=>?_) (st1:=(5,0))
 ·cases ht24
 ·refine gC (fun ht43=>?_) (fun ht43=>?_) (st2:=(8, 0))
  ·refine gc (aij D hp hn q2) ?_
   refine gc s2 ?_
   refine gc s4 ?_
   refine gD ?_
   refine gE1 ?_
   rfl
  ·cases ht43
theorem a4j {l:Li} {a:As} (D:DyR l a) {kk:Int} {n:Nat} {i z0 z1:Int} {j0 j:Jt} (ok:DyOk l kk a true n ⟨3, [i], [z0, z1], 0⟩) (P:SlP l a ⟨3, [i], [z0, z1], 0⟩ 3 i z0 z1 j0 j) (hj:j.b = i) (hb:Pd a j.a) :
  FnC prog 45 [l.av,i64 n,a.av] (nA (sX (asi l a ⟨3,[i],[z0,z1],0⟩))):=by
 have hbl:=D.al.bl
 have hi0:=(ok.ok.b i (by simp)).1
 obtain ⟨p,hp,hn⟩:=ok.own (b:=i) (by simp)
 have hil:=(List.getElem?_eq_some_iff.1 hp).1
 obtain ⟨i1,i2,i3,i4,i5⟩:=afv D.li P.h1
 have q1:Sm 1000 (mkQ l i j.on):=by rw [<- hj]; exact alw D.hl D.li i2 i4
 have q2:Sm 1000 (mkQ l i j.to):=by rw [<- hj]; exact alw D.hl D.li i2 (i5 P.hk)
 obtain ⟨y1,y2⟩:=af6 D.hl D.li D.al D.hc P.h0 P.p0
 obtain ⟨y3,y4⟩:=afq D.hl D.li D.al D.hc i1 i3 hb
 obtain ⟨y5,y6⟩:=ar1 D.al D.hc (ok.own (b:=i) (by simp)) q1
 obtain ⟨y7,y8⟩:=ar1 D.al D.hc (ok.own (b:=i) (by simp)) q2
 have c:=D.al.ct D.hc
 obtain ⟨s1,s2,_,s4⟩:=bgx c y7 y8 y5 y6 y3 y4 y1 y2
 rw [<- (ab3 D.al.tr D.hc).2] at s1 s2 s4
 rw [bfs P hj]
 refine gF0 func45 ?_
 refine gc (a25 D ok.hg ok.ok P hj hb) ?_
 refine gD ?_
 refine gi (ad4 (n:=i.toNat) (by omega) hp) ?_
 refine gC (fun ht24=>?_) (fun ht24=>?_) (st1:=(5,0))
 ·cases ht24
 ·refine gC (fun ht43=>?_) (fun ht43=>?_) (st1:=(7, 0))
  ·cases ht43
  ·refine gC (fun ht58=>?_) (fun ht58=>?_) (st2:=(77777, 0))
   ·refine gc (aij D hp hn q2) ?_
    refine gc (aij D hp hn q1) ?_
    refine gc s1 ?_
    refine gc s2 ?_
    refine gc s4 ?_
    refine gD ?_
    refine gE1 ?_
    rfl
   ·cases ht58
theorem a3z {l:Li} {a:As} (D:DyR l a) {kk:Int} {n:Nat} {i z0 d:Int} {j0:Jt} (ok:DyOk l kk a true n ⟨0, [i], [z0], d⟩) (h0:l.joints[z0.toNat]? = some j0) (p0:PinP l a j0 i) :
  FnC prog 45 [l.av,i64 n,a.av] (nA (sh 0 ((1:Int):Rat))):=by
 have hbl:=D.al.bl
 have hi0:=(ok.ok.b i (by simp)).1
 obtain ⟨p,hp,hn⟩:=ok.own (b:=i) (by simp)
 have hil:=(List.getElem?_eq_some_iff.1 hp).1
 refine gF0 func45 ?_
 refine gc (a2z D ok.hg ok.ok h0 p0) ?_
 refine gD ?_
 refine gi (ad4 (n:=i.toNat) (by omega) hp) ?_
 refine gC (fun ht24=>?_) (fun ht24=>?_) (st1:=(5,0))
 ·cases ht24
 ·refine gC (fun ht43=>?_) (fun ht43=>?_) (st1:=(7, 0))
  ·cases ht43
  ·refine gC (fun ht58=>?_) (fun ht58=>?_) (st1:=(9, 0))
   ·cases ht58
   ·refine gc (avn 1 (by omega)) ?_
    refine gE1 ?_
    rfl
theorem a78 {l:Li} {a:As} (D:DyR l a) {k:Int} {n:Nat} {g:Gr} (ok:DyOk l k a true n g):FnC prog 45 [l.av, i64 n, a.av] (nA (aoa l a g)):=by
 unfold aoa
 by_cases h0:g.kind = 0
 ·obtain ⟨i, z0, d, j0, rfl, hj, hp⟩:=ok.drv h0
  rw [if_pos rfl]
  exact a3z D ok hj hp
 ·rw [if_neg h0]
  by_cases h1:g.kind = 1
  ·obtain ⟨i, k2, z0, z1, z2, j0, j1, j2, P⟩:=ok.rrr h1
   obtain rfl:=P.eq
   exact a2y D ok P
  ·by_cases h2:g.kind = 2
   ·obtain ⟨i, z0, z1, j0, j, P, ha, hb⟩:=ok.pr h2
    obtain rfl:=P.eq
    exact a3h D ok P ha hb
   ·obtain ⟨i, z0, z1, j0, j, P, _, hj, hb⟩:=ok.rp h0 h1 h2
    obtain rfl:=P.eq
    exact a4j D ok P hj hb
end Go.Lw
namespace Go.Lw
open Go.Proofs
theorem bpa {p q:Bool} (h:cond (cond (!true) true (!p)) true (!q) = false):p = true /\ q = true:=by cases p <;> cases q <;> simp_all
theorem bff {l:Li} {k:Int} {a:As} {own:Bool} {n:Nat} {g:Gr} (hl:l.ok) (al:AL a) (ok:DyOk l k a own n g):DyR l a:=⟨hl,ok.li,al,ok.chk⟩
theorem a65 {ts:List (List Rat)} (c:Ct ts 4000 300000) {p q m n:Et ts × Et ts} (y1:Zu 4000 300000 p.1 40 40) (y2:Zu 4000 300000 p.2 40 40) (y3:Zu 4000 300000 q.1 40 40) (y4:Zu 4000 300000 q.2 40 40)
  (y5:Zu 4000 300000 m.1 40 40) (y6:Zu 4000 300000 m.2 40 40) (y7:Zu 4000 300000 n.1 40 40) (y8:Zu 4000 300000 n.2 40 40) :
  (∃ a b,Zu 4000 300000 (bj7 (sbE p q) (sbE m n)) a b /\ a + b <= 5000) /\ ∃ a b,Zu 4000 300000 (a5d (sbE p q) (sbE m n)) a b /\ a + b <= 5000:=by
 haveI:=c; haveI:=y1; haveI:=y2; haveI:=y3; haveI:=y4; haveI:=y5; haveI:=y6; haveI:=y7; haveI:=y8
 exact ⟨⟨_,_,(inferInstance:Zu 4000 300000 (crsE (p.1 - q.1) (p.2 - q.2) (m.1 - n.1) (m.2 - n.2)) _ _),by decide⟩,⟨_,_,(inferInstance:Zu 4000 300000 (dotE (p.1 - q.1) (p.2 - q.2) (m.1 - n.1) (m.2 - n.2)) _ _),by decide⟩⟩
theorem bms {l:Li} {k:Int} {a:As} {n:Nat} {g:Gr} (D:DyR l a) (ok:DyOk l k a true n g) (h0:g.kind ≠ 0):∃ w v, Zu 4000 300000 (asi l a g) w v /\ w + v <= 5000:=by
 have c:=D.al.ct D.hc
 by_cases h1:g.kind = 1
 ·obtain ⟨i, k2, z0, z1, z2, j0, j1, j2, P⟩:=ok.rrr h1
  obtain ⟨y1,y2⟩:=af6 D.hl D.li D.al D.hc P.h0 P.p0
  obtain ⟨y3,y4⟩:=af6 D.hl D.li D.al D.hc P.h1 P.p1
  obtain ⟨y5,y6⟩:=ar1 D.al D.hc (ok.own (b:=i) (by rw [P.eq]; simp)) (akm D.hl D.li P.h2 P.t1)
  rw [bft P]
  exact (a65 c y3 y4 y1 y2 y5 y6 y1 y2).1
 ·by_cases h2:g.kind = 2
  ·obtain ⟨i, z0, z1, j0, j, P, ha, hb⟩:=ok.pr h2
   obtain ⟨i1,i2,i3,i4,i5⟩:=afv D.li P.h1
   have q2:Sm 1000 (mkQ l i j.point):=by rw [<- ha]; exact alw D.hl D.li i1 i3
   obtain ⟨y1,y2⟩:=af6 D.hl D.li D.al D.hc P.h0 P.p0
   obtain ⟨y3,y4⟩:=afq D.hl D.li D.al D.hc i2 (i5 P.hk) hb
   obtain ⟨y7,y8⟩:=afq D.hl D.li D.al D.hc i2 i4 hb
   obtain ⟨y5,y6⟩:=ar1 D.al D.hc (ok.own (b:=i) (by rw [P.eq]; simp)) q2
   rw [bfb P]
   exact (a65 c y3 y4 y7 y8 y5 y6 y1 y2).2
  ·obtain ⟨i, z0, z1, j0, j, P, _, hj, hb⟩:=ok.rp h0 h1 h2
   obtain ⟨i1,i2,i3,i4,i5⟩:=afv D.li P.h1
   have q1:Sm 1000 (mkQ l i j.on):=by rw [<- hj]; exact alw D.hl D.li i2 i4
   have q2:Sm 1000 (mkQ l i j.to):=by rw [<- hj]; exact alw D.hl D.li i2 (i5 P.hk)
   obtain ⟨y1,y2⟩:=af6 D.hl D.li D.al D.hc P.h0 P.p0
   obtain ⟨y3,y4⟩:=afq D.hl D.li D.al D.hc i1 i3 hb
   obtain ⟨y5,y6⟩:=ar1 D.al D.hc (ok.own (b:=i) (by rw [P.eq]; simp)) q1
   obtain ⟨y7,y8⟩:=ar1 D.al D.hc (ok.own (b:=i) (by rw [P.eq]; simp)) q2
   rw [bfs P hj]
   exact (a65 c y7 y8 y5 y6 y3 y4 y1 y2).2
end Go.Lw
namespace Go.Lw
structure SameJ (l' l:Li):Prop where
  j:l'.joints = l.joints
  d:l'.drivers = l.drivers
  b:l'.bodies.length = l.bodies.length
section
variable {l' l:Li} (h:SameJ l' l)
include h
theorem SameJ.jointI (kind body:Int) (oth:List Bool):jointI l' kind body oth = jointI l kind body oth:=by unfold Lw.jointI; rw [h.j]
theorem SameJ.freeB (k:List Bool) (i:Int):freeB l' k i = freeB l k i:=by unfold Lw.freeB ak9; rw [h.d]
theorem SameJ.drHit (k:List Bool) (i:Nat):drHit l' k i = drHit l k i:=by unfold Lw.drHit; simp only [h.d,h.jointI]
theorem SameJ.driverG (k:List Bool):driverG l' k = driverG l k:=by unfold Lw.driverG; simp only [h.d,h.jointI,h.drHit]
theorem SameJ.prHit (k:List Bool) (i j:Nat):prHit l' k i j = prHit l k i j:=by unfold Lw.prHit; simp only [h.freeB,h.jointI,h.b]
theorem SameJ.prAt (k:List Bool) (i:Nat):prAt l' k i = prAt l k i:=by unfold Lw.prAt; simp only [h.prHit,h.b]
theorem SameJ.prG (k:List Bool) (i j:Nat):prG l' k i j = prG l k i j:=by unfold Lw.prG; simp only [h.jointI,h.b]
theorem SameJ.pairG (k:List Bool):pairG l' k = pairG l k:=by unfold Lw.pairG; simp only [h.prAt,h.prG,h.b]
theorem SameJ.sgHit (k:List Bool) (i:Nat):sgHit l' k i = sgHit l k i:=by unfold Lw.sgHit; simp only [h.freeB,h.jointI]
theorem SameJ.sgG (k:List Bool) (i:Nat):sgG l' k i = sgG l k i:=by unfold Lw.sgG; simp only [h.jointI,h.j]
theorem SameJ.singleG (k:List Bool):singleG l' k = singleG l k:=by
 unfold Lw.singleG
 have e:Lw.sgG l' k = Lw.sgG l k:=funext (h.sgG k)
 simp only [h.sgHit,h.b,e]
theorem SameJ.nextG (k:List Bool):nextG l' k = nextG l k:=by unfold Lw.nextG; rw [h.driverG,h.pairG,h.singleG]
theorem SameJ.findFrom:∀ (n:Nat) (k:List Bool) (out:List Gr), findFrom l' n k out = findFrom l n k out
 | 0,k,out=>rfl
 | n + 1, k, out=>by
  unfold Lw.findFrom
  rw [h.nextG]
  cases Lw.nextG l k with
  | none=>rfl
  | some g=>exact SameJ.findFrom n _ _
theorem SameJ.findG:findG l' = findG l:=by unfold Lw.findG; rw [h.b,h.findFrom]
theorem SameJ.splitE:splitE l' = splitE l:=by unfold Lw.splitE adn ag3; rw [h.findG,h.b,h.j]
theorem SameJ.splitG:splitG l' = splitG l:=by unfold Lw.splitG; rw [h.splitE,h.findG]
end
end Go.Lw
namespace Go.Lw
def Jt.vs (j:Jt):List Value:=[.string j.name,.int .i64 j.kind,.int .i64 j.a,.int .i64 j.point,.int .i64 j.b,.int .i64 j.on,.int .i64 j.to]
def Dr.vs (d:Dr):List Value:=[.string d.name,.int .i64 d.body]
structure Gr.sm (g:Gr):Prop where
  b:g.bodies.length <= 100
  j:g.joints.length <= 100
theorem avt {l:Li} (hl:liE l = 0):(∀ g ∈ splitG l, g.sm) /\ (splitG l).length <= 100:=by
 refine ⟨fun g hg=>?_,?_⟩
 ·obtain ⟨_, ho⟩:=alx hl hg
  have:=ho.lb; have:=ho.lj
  exact ⟨by omega,by omega⟩
 ·unfold splitG; split
  ·have:=(aka hl).2; omega
  ·exact zero_le _
end Go.Lw
namespace Go.Lw
open Go.Proofs
end Go.Lw
namespace Go.Lw
open Go.Proofs
theorem bod {l:Li} {k:Int} {a:As} {n:Nat} {g:Gr} (D:DyR l a) (ok:DyOk l k a true n g):∃ e, Nm (llq a.rs).length e (aoa l a g) /\ e <= 1520000000:=by
 haveI c:=D.al.ct D.hc
 have hz:∃ x w v, Zl (llq a.rs) 4000 300000 (aoa l a g) x w v /\ w + v <= 5000:=by
  unfold aoa
  by_cases h0:g.kind = 0
  ·rw [if_pos h0]
   haveI:Qz 4000 (((1:Int)):Rat) 1:=Qz.int (c:=Ct.cx (c:=c)) (by decide)
   exact ⟨_,_,_,(inferInstance:Zl (llq a.rs) 4000 300000 (sh 0 (((1:Int):Rat):Rat)) _ _ _),by decide⟩
  ·rw [if_neg h0]
   obtain ⟨w,v,hw,hs⟩:=bms D ok h0
   exact ⟨_,w,v,(inferInstance:Zl (llq a.rs) 4000 300000 (sX (asi l a g)) _ _ _),hs⟩
 obtain ⟨x,w,v,z,hs⟩:=hz
 exact ⟨_,z.nm,by omega⟩
def beh (l:Li) (a:As) (k:Nat):Int:=T.sgn (aas (llq a.rs)) (llq a.rs).length (dec (llq a.rs).length (aoa l a (gAt l k)))
theorem am5 {l:Li} {a:As} (hg:Good l a) (hs:splitE l = 0) {k:Nat} (hk:k < (splitG l).length) :
  ∃ e,Nm (llq a.rs).length e (aoa l a (gAt l k)) /\ e <= 1520000000:=by
 obtain ⟨n,g,ok⟩:=bi1 (baq hg hs hk true)
 have hn:(k:Int) = n:=ok.hk
 have e:gAt l k = g:=aag (by have:=ok.hg; rw [show (k:Int).toNat = n by omega]; exact this)
 rw [e]
 exact bod (bff hg.lo hg.al ok) ok
theorem a56 {l:Li} {a:As} (hg:Good l a) (hs:splitE l = 0) {k:Nat} (hk:k < (splitG l).length) :
  FnC prog 39 [l.av,i64 k,a.av] (.tup [nA (aoa l a (gAt l k)),.v .nilIface]):=by
 have h:=bb4 l hg.lo k a hg.al
 rw [baq hg hs hk true,if_pos rfl] at h
 exact h
theorem a4x {l:Li} {a:As} (hg:Good l a) (hs:splitE l = 0) {k:Nat} (hk:k < (splitG l).length) :
  FnC prog 40 [ae2 a.rs,nA (aoa l a (gAt l k))] (.tup [i64 (beh l a k),.v .nilIface]):=by
 obtain ⟨tw,hta,h5,hll⟩:=hg.tw
 obtain ⟨e,hn,he⟩:=am5 hg hs hk
 have hlm:=adm (llq a.rs).length
 rw [hta]
 exact ayr tw hn (by omega)
end Go.Lw
namespace Go.Lw
open Go.Proofs
def afb (l:Li) (a:As) (n:Nat):List AV:=(List.range n).map fun (k:Nat)=>nA (aoa l a (gAt l (k:Int)))
theorem agp (l:Li) (a:As) (n:Nat):(afb l a n).length = n:=by unfold afb; simp
theorem asx (l:Li) (a:As) (n:Nat):afb l a (n + 1) = afb l a n ++ [nA (aoa l a (gAt l n))]:=by unfold afb; rw [List.range_succ]; simp
theorem agu (l:Li) (a:As) {n i:Nat} (h:i < n):(afb l a n)[i]? = some (nA (aoa l a (gAt l i))):=by unfold afb; simp [h]
def sgL (l:Li) (a:As) (n:Nat):List Int:=((List.range n).filter fun k=>decide (beh l a k = 0)).map Int.ofNat
theorem bb1 {l:Li} {a:As} {n:Nat} (h:beh l a n = 0):sgL l a (n + 1) = sgL l a n ++ [(n:Int)]:=by
 unfold sgL; rw [List.range_succ,List.filter_append,map_append]; simp [h]
theorem bde {l:Li} {a:As} {n:Nat} (h:beh l a n ≠ 0):sgL l a (n + 1) = sgL l a n:=by
 unfold sgL; rw [List.range_succ,List.filter_append,map_append]; simp [h]
theorem ax8 (l:Li) (a:As) (n:Nat):(sgL l a n).length <= n:=by
 unfold sgL; rw [length_map]; exact le_trans (List.length_filter_le _ _) (by simp)
theorem aol (l:Li) (hl:l.ok) (xs:List Tn) (hx:∀ x ∈ xs, x.t.ok /\ Qb 1000 x.t.q) (hxl:xs.length <= 281474976710656) (a:As) (ha:AL a) :
  FnC prog 49 [l.av,.lst 4 (xs.map Tn.av),a.av] (.tup [.lst 4 ((if acE l xs a = 0 then splitG l else []).map Gr.av),ahr (acE l xs a)]):=by
 refine gF0 func49 ?_
 refine gc (aqz l hl) ?_
 refine gC (fun ht18=>?_) (fun ht18=>?_)
 ·have h1:=acu ht18
  refine gR ?_
  exact aj9 (by rw [brr rfl h1,if_neg h1]; exact Sub.nil _ _ _) (Sub.of (by rw [brr rfl h1]))
 ·have h1:=acs ht18
  obtain ⟨h1, h2⟩:liE l = 0 /\ splitE l = 0:=by
   by_cases h2:liE l = 0
   ·rw [if_pos h2] at h1; exact ⟨h2,h1⟩
   ·rw [if_neg h2] at h1; exact absurd h1 h2
  refine gc (aom hl xs hx hxl ha) ?_
  refine gC (fun ht28=>?_) (fun ht28=>?_)
  ·have h3:=acu ht28
   refine gR ?_
   exact aj9 (by rw [bo2 h1 h2 h3,if_neg h3]; exact Sub.nil _ _ _) (Sub.of (by rw [bo2 h1 h2 h3]))
  ·have h3:=acs ht28
   refine gC (fun ht32=>?_) (fun ht32=>?_)
   ·have h4:(flt l xs a).1 ≠ 0:=by
     intro h5
     rw [h3,h5] at ht32
     cases ht32
    refine gR ?_
    exact aj9 (by rw [bo0 h1 h2 h3 h4,if_neg (by decide)]; exact Sub.nil _ _ _) (Sub.of (by rw [bo0 h1 h2 h3 h4]; rfl))
   ·have h4:(flt l xs a).1 = 0:=by
     refine Decidable.byContradiction fun h5=>?_
     rw [decide_eq_false h5,Bool.and_false] at ht32
     cases ht32
    refine gE2 ?_
    rw [brl h1 h2 h3 h4,if_pos rfl,if_pos h1]; rfl
theorem aqj {l:Li} {a:As} (hg:Good l a) (hs:splitE l = 0) :
  FnC prog 55 [l.av,i64 (splitG l).length,a.av] (.tup [.lst 1 (afb l a (splitG l).length),.v .nilIface]):=by
 have hgl:=avt hg.li
 refine gF0 func55 ?_
 refine gW (Wk.virt 900 1 rfl) ?_
 refine gL1 [3,5,12] [3,5] (fun (i:Nat)=>[(8,some (.ms 900 1 0 i)),(13,some (i64 i))]) (fun i=>[(900,some (.row 1 (afb l a i)))]) (fun i=>i <= (splitG l).length) (fun i=>(splitG l).length - i) 0 (zero_le _) ?_
 rintro i hi K1 hK1
 refine gC (fun ht14=>?_) (fun ht14=>?_) (st2:=(10,0))
 ·have hin:=aa4 ht14
  refine gc (a56 hg hs hin) ?_
  refine gC (fun ht24=>?_) (fun ht24=>?_) (st1:=(7,0))
  ·cases ht24
  ·refine gs (abj (.tmp rfl) rfl (agp _ _ _).symm (.tmp rfl) T28 rfl T65 rfl rfl (by simp only [length_cons, length_nil]; omega) rfl rfl) ?_ (9, 0)
   refine gW (Wk.of (sl:=[(3,some (.ptr 3 0)),(5,some (.ptr 5 0)),(8,some (.ms 29 1 0 (i + 1))),(12,some (i64 (splitG l).length)),(13,some (i64 i))]) (hp:=[(3,some (.box l.av.cells)),(5,some (.box a.av.cells)),(29,some (.row 1 (afb l a (i + 1))))]) abz (.cons rfl (.refl _) (.cons rfl (.refl _) (.cons rfl (BlkSub.of (by rw [asx])) .nil)))) ?_ (9,0)
   refine gW (Wk.rekey (k:=29) (d:=900) rfl rfl) ?_
   refine ga aao ?_
   exact gK1 hK1 (i + 1) hin
 ·have hin:=aaj hi ht14
  subst hin
  refine gW ((Wk.freeze (k:=900) rfl).trans <| Wk.of (sl:=[(8,some (.lst 1 (afb l a (splitG l).length)))]) (hp:=[]) (.cons rfl (Sub.of (by rw [ab2 (agp l a (splitG l).length).symm])) .nil) .nil) ?_
  refine gE2 ?_
  first | rfl | (simp; done)
theorem apr (l:Li) (hl:l.ok) (xs:List Tn) (hx:∀ x ∈ xs, x.t.ok /\ Qb 1000 x.t.q) (hxl:xs.length <= 281474976710656) (a:As) (ha:AL a) :
  FnC prog 22 [l.av,.lst 4 (xs.map Tn.av),a.av] (.tup [.lst 1 (if acE l xs a = 0 then afb l a (splitG l).length else []),ahr (acE l xs a)]):=by
 refine gF0 func22 ?_
 refine gc (aol l hl xs hx hxl a ha) ?_
 refine gC (fun ht18=>?_) (fun ht18=>?_)
 ·have h1:=acu ht18
  refine gR ?_
  exact aj9 (by rw [if_neg h1]; exact Sub.nil _ _ _) (.refl _)
 ·have h1:=acs ht18
  obtain ⟨h2,h3,h4,h5⟩:=bo1 h1
  have hg:=ao7 hl h2 ha h5
  have hgl:=avt h2
  rw [if_pos h1,if_pos h1,h1]
  refine gl ?_
  refine gc (aqj hg h3) ?_
  refine gE2 ?_
  rfl
theorem a7h (l:Li) (hl:l.ok) (xs:List Tn) (hx:∀ x ∈ xs, x.t.ok /\ Qb 1000 x.t.q) (hxl:xs.length <= 281474976710656) (a:As) (ha:AL a) :
  FnC prog 23 [l.av,.lst 4 (xs.map Tn.av),a.av] (.tup [.lst 1 ((if acE l xs a = 0 then sgL l a (splitG l).length else []).map i64),ahr (acE l xs a)]):=by
 refine gF0 func23 ?_
 refine gc (apr l hl xs hx hxl a ha) ?_
 refine gC (fun ht23=>?_) (fun ht23=>?_)
 ·have h1:=acu ht23
  refine gR ?_
  exact aj9 (by rw [if_neg h1]; exact Sub.nil _ _ _) (.refl _)
 ·have h1:=acs ht23
  obtain ⟨h2,h3,h4,h5⟩:=bo1 h1
  have hg:=ao7 hl h2 ha h5
  have hgl:=avt h2
  have hdl:=agp l a (splitG l).length
  rw [if_pos h1,if_pos h1,h1]
  refine gl ?_
  refine gW (Wk.virt 900 1 rfl) ?_
  refine gL1 [5,25] [5] (fun (i:Nat)=>[(10,some (.ms 900 1 0 (sgL l a i).length)),(26,some (i64 (splitG l).length)),(27,some (i64 i))]) (fun i=>[(900,some (.row 1 ((sgL l a i).map i64)))]) (fun i=>i <= (splitG l).length) (fun i=>(splitG l).length - i) 0 (zero_le _) ?_ (h1:=(.k (.cons rfl (Sub.int (congrArg Int.ofNat List.length_range)) (.k .nil))))
  rintro i hi K1 hK1
  refine gC (fun ht28=>?_) (fun ht28=>?_) (st2:=(14,0))
  ·have hin:=aa4 ht28
   have hin2:i < (splitG l).length:=hin
   have hsl:=ax8 l a i
   refine gi (agu l a hin2) ?_
   refine gc (a4x hg h3 hin2) ?_
   refine gC (fun ht40=>?_) (fun ht40=>?_) (st1:=(10,0))
   ·cases ht40
   ·refine gC (fun ht43=>?_) (fun ht43=>?_) (st2:=(77777, 0))
    ·have hz:beh l a i = 0:=of_decide_eq_true ht43
     refine gs (abj (.tmp rfl) rfl (by simp) (.tmp rfl) T32 rfl T3 rfl rfl (by simp only [length_cons,length_nil]; omega) rfl rfl) ?_ (13,0)
     refine gW (Wk.of (sl:=[(5,some (.ptr 5 0)),(10,some (.ms 47 1 0 (sgL l a (i + 1)).length)),(25,some (.lst 1 (afb l a (splitG l).length))),(26,some (i64 (splitG l).length)),(27,some (i64 i))]) (hp:=[(5,some (.box a.av.cells)),(47,some (.row 1 ((sgL l a (i + 1)).map i64)))]) (.k (.cons rfl (Sub.of (by rw [bb1 hz]; simp)) (.k (.k (.k .nil))))) (.cons rfl (.refl _) (.cons rfl (BlkSub.of (by rw [bb1 hz]; simp)) .nil))) ?_ (13,0)
     refine gW (Wk.rekey (k:=47) (d:=900) rfl rfl) ?_
     refine ga aao ?_
     exact gK1 hK1 (i + 1) hin
    ·have hz:beh l a i ≠ 0:=of_decide_eq_false ht43
     refine gW (Wk.of (sl:=[(5,some (.ptr 5 0)),(10,some (.ms 900 1 0 (sgL l a (i + 1)).length)),(25,some (.lst 1 (afb l a (splitG l).length))),(26,some (i64 (splitG l).length)),(27,some (i64 i))]) (hp:=[(5,some (.box a.av.cells)),(900,some (.row 1 ((sgL l a (i + 1)).map i64)))]) (.k (.cons rfl (Sub.of (by rw [bde hz])) (.k (.k (.k .nil))))) (.cons rfl (.refl _) (.cons rfl (BlkSub.of (by rw [bde hz])) .nil))) ?_
     refine ga aao ?_
     exact gK1 hK1 (i + 1) hin
  ·have hin:=aaj hi ht28
   subst hin
   refine gW ((Wk.freeze (k:=900) rfl).trans <| Wk.of (sl:=[(10,some (.lst 1 ((sgL l a (splitG l).length).map i64)))]) (hp:=[]) (.cons rfl (Sub.of (by rw [ab2 (by simp)])) .nil) .nil) ?_
   refine gE2 ?_
   rfl
end Go.Lw
namespace Go.Lw
open Go.Proofs
theorem br3 {α:Type} {x:α} {i:Nat} (h:i = 0):[x][i]? = some x:=by subst h; rfl
theorem a22 {l:Li} {a:As} (hg:Good l a) (hs:splitE l = 0) {k:Nat} (hk:k < (splitG l).length) :
  FnC prog 45 [l.av,i64 k,a.av] (nA (aoa l a (gAt l k))):=by
 obtain ⟨n,g,ok⟩:=bi1 (baq hg hs hk true)
 have hn:(k:Int) = n:=ok.hk
 have e:gAt l k = g:=aag (by have:=ok.hg; rw [show (k:Int).toNat = n by omega]; exact this)
 have h:=a78 (bff hg.lo hg.al ok) ok
 rw [<- hn] at h
 rw [e]; exact h
theorem ax9 {l:Li} {a:As} (hg:Good l a) (hs:splitE l = 0) {k:Nat} (hk:k < (splitG l).length) :
  FnC prog 44 [ae2 a.rs,nA (aoa l a (gAt l k))] (i64 (beh l a k)):=by
 obtain ⟨tw,hta,h5,hll⟩:=hg.tw
 obtain ⟨e,hn,he⟩:=am5 hg hs hk
 have hlm:=adm (llq a.rs).length
 rw [hta]
 exact anz tw hn (by omega)
theorem a30 (l:Li) (hl:l.ok) (xs:List Tn) (hx:∀ x ∈ xs, x.t.ok /\ Qb 1000 x.t.q) (hxl:xs.length <= 281474976710656) (a:As) (ha:AL a) :
  FnC prog 12 [l.av,.lst 4 (xs.map Tn.av),.lst 3 [a.av]] (i64 (acE l xs a)):=by
 refine gF0 func12 ?_
 refine gc (aky l hl) ?_
 refine gC (fun ht16=>?_) (fun ht16=>?_)
 ·have h1:=afz ht16
  refine gE1 ?_
  rw [bp7 h1]
 ·have h1:=af1 ht16
  refine gc (adv l hl h1) ?_
  refine gC (fun ht24=>?_) (fun ht24=>?_)
  ·have h2:=afz ht24
   refine gE1 ?_
   rw [bra h1 h2]
  ·have h2:=af1 ht24
   refine gc (a7q l hl xs (fun x h9=>(hx x h9).1) hxl) ?_
   refine gC (fun ht30=>?_) (fun ht30=>?_)
   ·have h3:=afz ht30
    refine gE1 ?_
    rw [bo2 h1 h2 h3]
   ·have h3:=af1 ht30
    refine ge rfl ?_
    refine gL1 [1,3,32,33] [3] (fun (i:Nat)=>[(34,some (i64 i))]) (fun _=>[]) (fun i=>i <= 1 /\ (0 < i -> (flt l xs a).1 = 0)) (fun i=>1 - i) 0 ⟨zero_le _,fun h=>absurd h (by omega)⟩ ?_
    rintro i ⟨hi,hj⟩ K1 hK1
    refine gC (fun ht35=>?_) (fun ht35=>?_)
    ·have hin:i < 1:=aa4 (b:=1) ht35
     have hi0:i = 0:=by omega
     obtain ⟨_,hb1,hb2⟩:=bgi h3
     refine gi (br3 hi0) ?_
     refine gc (ayx hl h1 xs (fun x h9=>⟨(hx x h9).1,hb2 x h9,(hx x h9).2⟩) hb1 ha) ?_
     refine gs (bdt (o:=0) (.tmp rfl) rfl (by kernel_rfl) rfl) ?_
     refine gC (fun ht43=>?_) (fun ht43=>?_)
     ·have h4:(flt l xs a).1 ≠ 0:=afz ht43
      refine gE1 ?_
      rw [bo0 h1 h2 h3 h4]; rfl
     ·have h4:(flt l xs a).1 = 0:=af1 ht43
      refine ga aao ?_
      exact gK1 hK1 (i + 1) ⟨hin,fun _=>h4⟩
    ·have h4 : (flt l xs a).1 = 0 := hj (by have := aaj (b := 1) hi ht35; omega)
     refine gE1 ?_
     rw [brl h1 h2 h3 h4]; rfl
theorem am8 {l:Li} {a:As} (hg:Good l a) (hs:splitE l = 0):FnC prog 25 [l.av, a.av] (.lst 1 (afb l a (splitG l).length)):=by
 have hgl:=avt hg.li
 refine gF0 func25 ?_
 refine gc (adv l hg.lo hg.li) ?_
 refine gl ?_
 refine gW (Wk.virt 900 1 rfl) ?_
 refine gL1 [2,3,15] [2,3] (fun (i:Nat)=>[(7,some (.ms 900 1 0 i)),(16,some (i64 i))]) (fun i=>[(900,some (.row 1 (afb l a i)))]) (fun i=>i <= (splitG l).length) (fun i=>(splitG l).length - i) 0 (zero_le _) ?_
 rintro i hi K1 hK1
 refine gC (fun ht17=>?_) (fun ht17=>?_) (st2:=(8,0))
 ·have hin:=aa4 ht17
  refine gc (a22 hg hs hin) ?_
  refine gs (abj (.tmp rfl) rfl (agp _ _ _).symm (.tmp rfl) T28 rfl T65 rfl rfl (by simp only [length_cons,length_nil]; omega) rfl rfl) ?_ (7,0)
  refine gW (Wk.of (sl:=[(2,some (.ptr 2 0)),(3,some (.ptr 3 0)),(7,some (.ms 25 1 0 (i + 1))),(15,some (i64 (splitG l).length)),(16,some (i64 i))]) (hp:=[(2,some (.box l.av.cells)),(3,some (.box a.av.cells)),(25,some (.row 1 (afb l a (i + 1))))]) abz (.cons rfl (.refl _) (.cons rfl (.refl _) (.cons rfl (BlkSub.of (by rw [asx])) .nil)))) ?_ (7,0)
  refine gW (Wk.rekey (k:=25) (d:=900) rfl rfl) ?_
  refine ga aao ?_
  exact gK1 hK1 (i + 1) hin
 ·have hin:=aaj hi ht17
  subst hin
  refine gW ((Wk.freeze (k:=900) rfl).trans <| Wk.of (sl:=[(7,some (.lst 1 (afb l a (splitG l).length)))]) (hp:=[]) (.cons rfl (Sub.of (by rw [ab2 (agp l a (splitG l).length).symm])) .nil) .nil) ?_
  refine gE1 ?_
  rfl
theorem bbt {l:Li} {a:As} (hg:Good l a) (hs:splitE l = 0):FnC prog 26 [l.av, a.av] (.lst 1 ((sgL l a (splitG l).length).map i64)):=by
 have hgl:=avt hg.li
 refine gF0 func26 ?_
 refine gc (am8 hg hs) ?_
 refine gl ?_
 refine gW (Wk.virt 900 1 rfl) ?_
 refine gL1 [3,10] [3] (fun (i:Nat)=>[(5,some (.ms 900 1 0 (sgL l a i).length)),(11,some (i64 (splitG l).length)),(12,some (i64 i))]) (fun i=>[(900,some (.row 1 ((sgL l a i).map i64)))]) (fun i=>i <= (splitG l).length) (fun i=>(splitG l).length - i) 0 (zero_le _) ?_ (h1:=(.k (.cons rfl (Sub.int (congrArg Int.ofNat List.length_range)) (.k .nil))))
 rintro i hi K1 hK1
 refine gC (fun ht13=>?_) (fun ht13=>?_) (st2:=(8,0))
 ·have hin:i < (splitG l).length:=aa4 ht13
  have hsl:=ax8 l a i
  refine gi (agu l a hin) ?_
  refine gc (ax9 hg hs hin) ?_
  refine gC (fun ht21=>?_) (fun ht21=>?_) (st2:=(77777,0))
  ·have hz:beh l a i = 0:=of_decide_eq_true ht21
   refine gs (abj (.tmp rfl) rfl (by simp) (.tmp rfl) T32 rfl T3 rfl rfl (by simp only [length_cons,length_nil]; omega) rfl rfl) ?_ (7,0)
   refine gW (Wk.of (sl:=[(3,some (.ptr 3 0)),(5,some (.ms 25 1 0 (sgL l a (i + 1)).length)),(10,some (.lst 1 (afb l a (splitG l).length))),(11,some (i64 (splitG l).length)),(12,some (i64 i))]) (hp:=[(3,some (.box a.av.cells)),(25,some (.row 1 ((sgL l a (i + 1)).map i64)))]) (.k (.cons rfl (Sub.of (by rw [bb1 hz]; simp)) (.k (.k (.k .nil))))) (.cons rfl (.refl _) (.cons rfl (BlkSub.of (by rw [bb1 hz]; simp)) .nil))) ?_ (7,0)
   refine gW (Wk.rekey (k:=25) (d:=900) rfl rfl) ?_
   refine ga aao ?_
   exact gK1 hK1 (i + 1) hin
  ·have hz:beh l a i ≠ 0:=of_decide_eq_false ht21
   refine gW (Wk.of (sl:=[(3,some (.ptr 3 0)),(5,some (.ms 900 1 0 (sgL l a (i + 1)).length)),(10,some (.lst 1 (afb l a (splitG l).length))),(11,some (i64 (splitG l).length)),(12,some (i64 i))]) (hp:=[(3,some (.box a.av.cells)),(900,some (.row 1 ((sgL l a (i + 1)).map i64)))]) (.k (.cons rfl (Sub.of (by rw [bde hz])) (.k (.k (.k .nil))))) (.cons rfl (.refl _) (.cons rfl (BlkSub.of (by rw [bde hz])) .nil))) ?_
   refine ga aao ?_
   exact gK1 hK1 (i + 1) hin
 ·have hin:=aaj hi ht13
  subst hin
  refine gW ((Wk.freeze (k:=900) rfl).trans <| Wk.of (sl:=[(5,some (.lst 1 ((sgL l a (splitG l).length).map i64)))]) (hp:=[]) (.cons rfl (Sub.of (by rw [ab2 (by simp)])) .nil) .nil) ?_
  refine gE1 ?_
  rfl
end Go.Lw
namespace Go.Lw
open Go.Proofs
def sqL (l:Li) (a:As) (k:Nat):List Rat:=sh (llq a.rs).length (T.mul (aas (llq a.rs)) (llq a.rs).length (dec (llq a.rs).length (aoa l a (gAt l k))) (dec (llq a.rs).length (aoa l a (gAt l k))))
def blh (a:As) (x y:List Rat):Int:=T.sgn (aas (llq a.rs)) (llq a.rs).length (T.add (llq a.rs).length (dec (llq a.rs).length x) (T.neg (llq a.rs).length (dec (llq a.rs).length y)))
def nrS (l:Li) (a:As):Nat -> Int × List Rat
  | 0=>(-1,[])
  | k + 1=>if ((splitG l).getD k default).kind = 0 then nrS l a k else if (nrS l a k).1 < 0 \/ blh a (sqL l a k) (nrS l a k).2 < 0 then ((k:Int),sqL l a k) else nrS l a k
theorem bg3 {l:Li} {a:As} {k:Nat} {g:Gr} (hg:(splitG l)[k]? = some g) (h:g.kind = 0):nrS l a (k + 1) = nrS l a k:=by
 rw [nrS,aag hg,if_pos h]
theorem a0g {l:Li} {a:As} {k:Nat} {g:Gr} (hg:(splitG l)[k]? = some g) (h:g.kind ≠ 0) (h1:(nrS l a k).1 < 0 \/ blh a (sqL l a k) (nrS l a k).2 < 0):nrS l a (k + 1) = ((k:Int), sqL l a k):=by
 rw [nrS,aag hg,if_neg h,if_pos h1]
theorem bao {l:Li} {a:As} {k:Nat} {g:Gr} (hg:(splitG l)[k]? = some g) (h:g.kind ≠ 0) (h1:¬ ((nrS l a k).1 < 0 \/ blh a (sqL l a k) (nrS l a k).2 < 0)):nrS l a (k + 1) = nrS l a k:=by
 rw [nrS,aag hg,if_neg h,if_neg h1]
theorem bg6 {l:Li} {a:As} (hg:Good l a) (hs:splitE l = 0) {k:Nat} (hk:k < (splitG l).length):Nm (llq a.rs).length 3041000000 (sqL l a k):=by
 obtain ⟨tw,hta,h5,hll⟩:=hg.tw
 obtain ⟨e,hn,he⟩:=am5 hg hs hk
 have kb:kB 40000 (llq a.rs).length <= 280014:=kb4 tw.three
 exact (Nm.mul tw rfl hn hn).mono (by omega)
theorem a7y {l:Li} {a:As} (hg:Good l a) (hs:splitE l = 0):∀ {k:Nat}, k <= (splitG l).length -> Nm (llq a.rs).length 3041000000 (nrS l a k).2
 | 0,_=>(⟨hg.tw.1.five,.inl rfl,Cb.nil⟩:Nm _ 0 []).mono (by omega)
 | k + 1, h=>by
  have ih:=a7y hg hs (k:=k) (by omega)
  rw [nrS]
  split
  ·exact ih
  ·split
   ·exact bg6 hg hs (by omega)
   ·exact ih
theorem bdw {l:Li} {a:As} (hg:Good l a) (hs:splitE l = 0) {k:Nat} (hk:k < (splitG l).length) :
  FnC prog 56 [ae2 a.rs,nA (aoa l a (gAt l k)),nA (aoa l a (gAt l k))] (.tup [nA (sqL l a k),.v .nilIface]):=by
 obtain ⟨tw,hta,h5,hll⟩:=hg.tw
 obtain ⟨e,hn,he⟩:=am5 hg hs hk
 have hlm:=adm (llq a.rs).length
 rw [hta]
 exact a7u tw hn hn (by omega)
theorem a5u {l:Li} {a:As} (hg:Good l a) {x y:List Rat} (hx:Nm (llq a.rs).length 3041000000 x) (hy:Nm (llq a.rs).length 3041000000 y) :
  FnC prog 57 [ae2 a.rs,nA x,nA y] (.tup [i64 (blh a x y),.v .nilIface]):=by
 obtain ⟨tw,hta,h5,hll⟩:=hg.tw
 have hlm:=adm (llq a.rs).length
 rw [hta]
 exact awp tw hx hy (by omega)
theorem aum {z:Int} (h:aab .lss z 0 = true):z < 0:=of_decide_eq_true h
theorem as4 {z:Int} (h:aab .lss z 0 = false):¬ z < 0:=of_decide_eq_false h
theorem azt (l:Li) (hl:l.ok) (xs:List Tn) (hx:∀ x ∈ xs, x.t.ok /\ Qb 1000 x.t.q) (hxl:xs.length <= 281474976710656) (a:As) (ha:AL a) :
  FnC prog 24 [l.av,.lst 4 (xs.map Tn.av),a.av] (.tup [i64 (if acE l xs a ≠ 0 \/ (nrS l a (splitG l).length).1 < 0 then 0 else (nrS l a (splitG l).length).1),ahr (if acE l xs a ≠ 0 then acE l xs a else if (nrS l a (splitG l).length).1 < 0 then 16 else 0)]):=by
 refine gF0 func24 ?_
 refine gc (aol l hl xs hx hxl a ha) ?_
 refine gC (fun ht26=>?_) (fun ht26=>?_)
 ·have h1:=acu ht26
  refine gE2 ?_
  rw [if_pos (Or.inl h1),if_pos h1]; rfl
 ·have h1:=acs ht26
  obtain ⟨h2,h3,h4,h5⟩:=bo1 h1
  have hg:=ao7 hl h2 ha h5
  have hgl:=avt h2
  rw [if_pos h1]
  refine gl ?_
  refine gc (aqj hg h3) ?_
  refine gC (fun ht37=>?_) (fun ht37=>?_) (st1:=(6,0))
  ·cases ht37
  ·refine gl ?_
   refine gL1 [5,10,39,40] [5] (fun (i:Nat)=>[(11,some (i64 (nrS l a i).1)),(12,some (nA (nrS l a i).2)),(41,some (i64 i))]) (fun _=>[]) (fun i=>i <= (splitG l).length) (fun i=>(splitG l).length - i) 0 (zero_le _) ?_ (h1:=(.k (.cons rfl (Sub.nil _ _ _) (.k .nil))))
   rintro i hi K1 hK1
   refine gC (fun ht42=>?_) (fun ht42=>?_)
   ·have hin:=aa4 ht42
    obtain ⟨g,hgi⟩:=ab0 hin
    have hn1:=bg6 hg h3 hin
    have hn2:=a7y hg h3 hi
    refine gi (aaf hgi) ?_
    refine gC (fun ht48=>?_) (fun ht48=>?_) (st1:=(77777,0))
    ·have hk:nrS l a (i + 1) = nrS l a i:=bg3 hgi (aek ht48)
     refine gW (Wk.of (sl:=[(5,some (.ptr 5 0)),(10,some (.lst 1 (afb l a (splitG l).length))),(11,some (i64 (nrS l a (i + 1)).1)),(12,some (nA (nrS l a (i + 1)).2)),(39,some (.lst 4 ((splitG l).map Gr.av))),(40,some (i64 (splitG l).length)),(41,some (i64 i))]) (hp:=[(5,some (.box a.av.cells))]) (.k (.k (.cons rfl (Sub.of (by rw [hk])) (.cons rfl (Sub.of (by rw [hk])) (.k (.k (.k .nil))))))) (.cons rfl (.refl _) .nil)) ?_
     refine ga aao ?_
     exact gK1 hK1 (i + 1) hin
    ·have hkd:g.kind ≠ 0:=ae9 ht48
     refine gi (agu l a (i:=i) hin) ?_
     refine gi (agu l a (i:=i) hin) ?_
     refine gc (bdw (k:=i) hg h3 hin) ?_
     refine gD ?_
     refine gC (fun ht64=>?_) (fun ht64=>?_) (st1:=(15,0))
     ·cases ht64
     ·refine gC (fun ht67=>?_) (fun ht67=>?_)
      ·simp only [aab, decide_eq_true_eq] at ht67
       refine gc (a5u hg hn1 hn2) ?_
       refine gC (fun ht77=>?_) (fun ht77=>?_) (st1:=(20,0))
       ·cases ht77
       ·refine gC (fun ht80=>?_) (fun ht80=>?_) (st1:=(23, 0)) (st2:=(77777, 0))
        ·have hk:nrS l a (i + 1) = ((i:Int), sqL l a i):=by
          first | exact a0g hgi hkd (.inr (aum ht80)) | exact a0g hgi hkd (.inr ht80) | exact a0g hgi hkd (.inl (by omega))
         refine gW (Wk.of (sl:=[(5,some (.ptr 5 0)),(10,some (.lst 1 (afb l a (splitG l).length))),(11,some (i64 (nrS l a (i + 1)).1)),(12,some (nA (nrS l a (i + 1)).2)),(39,some (.lst 4 ((splitG l).map Gr.av))),(40,some (i64 (splitG l).length)),(41,some (i64 i))]) (hp:=[(5,some (.box a.av.cells))]) (.k (.k (.cons rfl (Sub.of (by rw [hk])) (.cons rfl (Sub.of (by rw [hk])) (.k (.k (.k .nil))))))) (.cons rfl (.refl _) .nil)) ?_
         refine ga aao ?_
         exact gK1 hK1 (i + 1) hin
        ·have hk:nrS l a (i + 1) = nrS l a i:=by
          first | (cases ht80; done) | exact bao hgi hkd (by have h8:=as4 ht80; omega) | exact bao hgi hkd (by omega)
         refine gW (Wk.of (sl:=[(5,some (.ptr 5 0)),(10,some (.lst 1 (afb l a (splitG l).length))),(11,some (i64 (nrS l a (i + 1)).1)),(12,some (nA (nrS l a (i + 1)).2)),(39,some (.lst 4 ((splitG l).map Gr.av))),(40,some (i64 (splitG l).length)),(41,some (i64 i))]) (hp:=[(5,some (.box a.av.cells))]) (.k (.k (.cons rfl (Sub.of (by rw [hk])) (.cons rfl (Sub.of (by rw [hk])) (.k (.k (.k .nil))))))) (.cons rfl (.refl _) .nil)) ?_
         refine ga aao ?_
         exact gK1 hK1 (i + 1) hin
      ·simp only [aab, decide_eq_false_iff_not] at ht67
       refine gC (fun ht80=>?_) (fun ht80=>?_) (st1:=(23,0)) (st2:=(77777,0))
       ·have hk:nrS l a (i + 1) = ((i:Int), sqL l a i):=by
         first | exact a0g hgi hkd (.inr (aum ht80)) | exact a0g hgi hkd (.inr ht80) | exact a0g hgi hkd (.inl (by omega))
        refine gW (Wk.of (sl:=[(5,some (.ptr 5 0)),(10,some (.lst 1 (afb l a (splitG l).length))),(11,some (i64 (nrS l a (i + 1)).1)),(12,some (nA (nrS l a (i + 1)).2)),(39,some (.lst 4 ((splitG l).map Gr.av))),(40,some (i64 (splitG l).length)),(41,some (i64 i))]) (hp:=[(5,some (.box a.av.cells))]) (.k (.k (.cons rfl (Sub.of (by rw [hk])) (.cons rfl (Sub.of (by rw [hk])) (.k (.k (.k .nil))))))) (.cons rfl (.refl _) .nil)) ?_
        refine ga aao ?_
        exact gK1 hK1 (i + 1) hin
       ·have hk:nrS l a (i + 1) = nrS l a i:=by
         first | (cases ht80; done) | exact bao hgi hkd (by have h8:=as4 ht80; omega) | exact bao hgi hkd (by omega)
        refine gW (Wk.of (sl:=[(5,some (.ptr 5 0)),(10,some (.lst 1 (afb l a (splitG l).length))),(11,some (i64 (nrS l a (i + 1)).1)),(12,some (nA (nrS l a (i + 1)).2)),(39,some (.lst 4 ((splitG l).map Gr.av))),(40,some (i64 (splitG l).length)),(41,some (i64 i))]) (hp:=[(5,some (.box a.av.cells))]) (.k (.k (.cons rfl (Sub.of (by rw [hk])) (.cons rfl (Sub.of (by rw [hk])) (.k (.k (.k .nil))))))) (.cons rfl (.refl _) .nil)) ?_
        refine ga aao ?_
        exact gK1 hK1 (i + 1) hin
   ·have hin:=aaj hi ht42
    subst hin
    refine gC (fun ht85=>?_) (fun ht85=>?_)
    ·have h6:=aum ht85
     refine gE2 ?_
     rw [if_pos (Or.inr h6),if_neg (by omega),if_pos h6]; rfl
    ·have h6:=as4 ht85
     refine gE2 ?_
     rw [if_neg (by rintro (h | h); exact h h1; exact h6 h),if_neg (by omega),if_neg h6]; rfl
theorem a0e {l:Li} {a:As} (hg:Good l a) (hs:splitE l = 0) {k:Nat} (hk:k < (splitG l).length) :
  FnC prog 59 [ae2 a.rs,nA (aoa l a (gAt l k)),nA (aoa l a (gAt l k))] (nA (sqL l a k)):=by
 obtain ⟨tw,hta,h5,hll⟩:=hg.tw
 obtain ⟨e,hn,he⟩:=am5 hg hs hk
 have hlm:=adm (llq a.rs).length
 rw [hta]
 exact ac1 tw hn hn (by omega)
def dfL (a:As) (x y:List Rat):List Rat:=sh (llq a.rs).length (T.add (llq a.rs).length (dec (llq a.rs).length x) (T.neg (llq a.rs).length (dec (llq a.rs).length y)))
theorem bcd {l:Li} {a:As} (hg:Good l a) {x y:List Rat} (hx:Nm (llq a.rs).length 3041000000 x) (hy:Nm (llq a.rs).length 3041000000 y) :
  FnC prog 48 [ae2 a.rs,nA x,nA y] (nA (dfL a x y)):=by
 obtain ⟨tw,hta,h5,hll⟩:=hg.tw
 have hlm:=adm (llq a.rs).length
 rw [hta]
 exact ag0 tw hx hy (by omega)
theorem a7a {l:Li} {a:As} (hg:Good l a) {x y:List Rat} (hx:Nm (llq a.rs).length 3041000000 x) (hy:Nm (llq a.rs).length 3041000000 y) :
  FnC prog 44 [ae2 a.rs,nA (dfL a x y)] (i64 (blh a x y)):=by
 obtain ⟨tw,hta,h5,hll⟩:=hg.tw
 have hlm:=adm (llq a.rs).length
 have h:=anz tw (Nm.sub hx hy) (by omega)
 rw [ab9] at h
 rw [hta]
 exact h
theorem br2 {k b c:Int} (h:cond (aab .eql k 0) true (cond (aab .geq b 0) (aab .geq c 0) false) = true):k = 0 \/ (b >= 0 /\ c >= 0):=by
 cases h1:aab .eql k 0
 ·rw [h1] at h
  cases h2:aab .geq b 0
  ·rw [h2] at h; cases h
  ·rw [h2] at h; exact .inr ⟨of_decide_eq_true h2,of_decide_eq_true h⟩
 ·exact .inl (aek h1)
theorem bsc {k b c:Int} (h:cond (aab .eql k 0) true (cond (aab .geq b 0) (aab .geq c 0) false) = false):k ≠ 0 /\ (b < 0 \/ c < 0):=by
 cases h1:aab .eql k 0
 ·rw [h1] at h
  refine ⟨ae9 h1,?_⟩
  cases h2:aab .geq b 0
  ·have:=of_decide_eq_false h2; exact .inl (by omega)
  ·rw [h2] at h; have:=of_decide_eq_false h; exact .inr (by omega)
 ·rw [h1] at h; cases h
theorem a4s {l:Li} {a:As} (hg:Good l a) (h3:splitE l = 0):FnC prog 28 [l.av, a.av] (.tup [i64 (if (nrS l a (splitG l).length).1 < 0 then 0 else (nrS l a (splitG l).length).1), i64 (if (nrS l a (splitG l).length).1 < 0 then 16 else 0)]):=by
 have hgl:=avt hg.li
 refine gF0 func28 ?_ (1,1)
 first | (refine gs (aaa (.tmp rfl) rfl rfl T26 rfl rfl rfl) ?_; trace "@@linkwork/linkworkref30.Near 1.0 aaa") | (refine go ?_; trace "@@linkwork/linkworkref30.Near 1.0 s_auto")
 refine gc (adv l hg.lo hg.li) ?_ (4,1)
 first | (refine gs (aaa (.tmp rfl) rfl rfl T26 rfl rfl rfl) ?_ (4, 2); trace "@@linkwork/linkworkref30.Near 4.0 aaa") | (refine go ?_ (4, 2); trace "@@linkwork/linkworkref30.Near 4.0 s_auto")
 first | (refine gs (aaa (.tmp rfl) rfl rfl T34 rfl rfl rfl) ?_; trace "@@linkwork/linkworkref30.Near 4.1 aaa") | (refine go ?_; trace "@@linkwork/linkworkref30.Near 4.1 s_auto")
 refine gc (am8 hg h3) ?_ (4,4)
 first | (refine go ?_; refine gl ?_; trace "@@linkwork/linkworkref30.Near 4.3 ajz") | (refine go ?_; refine ge rfl ?_; trace "@@linkwork/linkworkref30.Near 4.3 aga") | (refine go ?_; trace "@@linkwork/linkworkref30.Near 4.3 s_auto")
 refine gL1 [3,6,20] [3] (fun (i:Nat)=>[(8,some (i64 (nrS l a i).1)),(9,some (nA (nrS l a i).2)),(21,some (i64 (splitG l).length)),(22,some (i64 i))]) (fun _=>[]) (fun i=>i <= (splitG l).length) (fun i=>(splitG l).length - i) 0 (zero_le _) ?_ (h1:=(.k (.cons rfl (Sub.nil _ _ _) (.cons rfl (Sub.int (congrArg Int.ofNat List.length_range)) (.k .nil)))))
 rintro i hi K1 hK1
 refine gC (fun ht23=>?_) (fun ht23=>?_)
 ·have hin:i < (splitG l).length:=aa4 ht23
  obtain ⟨g,hgi⟩:=ab0 hin
  have hn1:=bg6 hg h3 hin
  have hn2:=a7y hg h3 hi
  refine gi (agu l a (i:=i) hin) ?_ (6,3)
  first | (refine gs (aaa (.tmp rfl) rfl rfl T65 rfl rfl rfl) ?_ (7, 2); trace "@@linkwork/linkworkref30.Near 6.2 aaa") | (refine go ?_ (7, 2); trace "@@linkwork/linkworkref30.Near 6.2 s_auto")
  first | (refine gs (aaa (.tmp rfl) rfl rfl T30 rfl rfl rfl) ?_; trace "@@linkwork/linkworkref30.Near 7.1 aaa") | (refine go ?_; trace "@@linkwork/linkworkref30.Near 7.1 s_auto")
  refine gc (a0e (k:=i) hg h3 hin) ?_
  refine gi (aaf hgi) ?_ (8,5)
  first | (refine gs (aaa (.tmp rfl) rfl rfl T3 rfl rfl rfl) ?_ (8, 12); trace "@@linkwork/linkworkref30.Near 8.4 aaa") | (refine go ?_ (8, 12); trace "@@linkwork/linkworkref30.Near 8.4 s_auto")
  first | (refine gs (agb rfl rfl rfl (fun h h2 => aaa (.opt rfl (o2 h h2)) rfl rfl T30 rfl rfl rfl)) ?_ (8, 14); trace "@@linkwork/linkworkref30.Near 8.11 aaa") | (refine go ?_ (8, 14); trace "@@linkwork/linkworkref30.Near 8.11 s_auto")
  first | (refine gs (agb rfl rfl rfl (fun h h2 => aaa (.opt rfl (o2 h h2)) rfl rfl T30 rfl rfl rfl)) ?_; trace "@@linkwork/linkworkref30.Near 8.13 aaa") | (refine go ?_; trace "@@linkwork/linkworkref30.Near 8.13 s_auto")
  refine gcG (fun _=>(bcd hg hn1 hn2)) ?_
  refine gcG (fun _=>(a7a hg hn1 hn2)) ?_
  refine gD ?_
  refine gC (fun ht52=>?_) (fun ht52=>?_) (st1:=(77777,0)) (st2:=(10,0))
  ·have hk:nrS l a (i + 1) = nrS l a i:=by
    rcases br2 ht52 with h9 | h9
    ·exact bg3 hgi h9
    ·by_cases h8:g.kind = 0
     ·exact bg3 hgi h8
     ·exact bao hgi h8 (by omega)
   refine gW (Wk.of (sl:=[(3,some (.ptr 3 0)),(6,some (.lst 4 ((splitG l).map Gr.av))),(8,some (i64 (nrS l a (i + 1)).1)),(9,some (nA (nrS l a (i + 1)).2)),(20,some (.lst 1 (afb l a (splitG l).length))),(21,some (i64 (splitG l).length)),(22,some (i64 i))]) (hp:=[(3,some (.box a.av.cells))]) (.k (.k (.cons rfl (Sub.of (by rw [hk])) (.cons rfl (Sub.of (by rw [hk])) (.k (.k (.k .nil))))))) (.cons rfl (.refl _) .nil)) ?_
   refine ga aao ?_
   exact gK1 hK1 (i + 1) hin
  ·obtain ⟨h8, h9⟩:=bsc ht52
   have hk:nrS l a (i + 1) = ((i:Int),sqL l a i):=a0g hgi h8 h9
   refine gW (Wk.of (sl:=[(3,some (.ptr 3 0)),(6,some (.lst 4 ((splitG l).map Gr.av))),(8,some (i64 (nrS l a (i + 1)).1)),(9,some (nA (nrS l a (i + 1)).2)),(20,some (.lst 1 (afb l a (splitG l).length))),(21,some (i64 (splitG l).length)),(22,some (i64 i))]) (hp:=[(3,some (.box a.av.cells))]) (.k (.k (.cons rfl (Sub.of (by rw [hk])) (.cons rfl (Sub.of (by rw [hk])) (.k (.k (.k .nil))))))) (.cons rfl (.refl _) .nil)) ?_
   refine ga aao ?_
   exact gK1 hK1 (i + 1) hin
 ·have hin:=aaj hi ht23
  subst hin
  refine gC (fun ht57=>?_) (fun ht57=>?_)
  ·have h6:=aum ht57
   refine gE2 ?_
   rw [if_pos h6,if_pos h6]; rfl
  ·have h6:=as4 ht57
   refine gE2 ?_
   rw [if_neg h6,if_neg h6]; rfl
end Go.Lw
namespace Go.Lw
open Go.Proofs
end Go.Lw
namespace Go.Lw
open Go.Proofs
end Go.Lw
namespace Go.Lw
open Go.Proofs
end Go.Lw
namespace Go.Lw
open Go.Proofs
theorem awb (a:List Int) (ha:a.length <= 281474976710656):FnC prog 14 [.lst 1 (a.map i64), .lst 1 (a.map i64)] (bl true):=by
 refine gF0 func14 ?_
 refine gl ?_
 refine gl ?_
 refine gC (fun ht10=>?_) (fun ht10=>?_) (st1:=(2,0))
 ·exact absurd ht10 (by simp [aab])
 ·refine gL1 [0, 1] [] (fun (i:Nat)=>[(5, some (i64 i))]) (fun _=>[]) (fun i=>i <= a.length) (fun i=>a.length - i) 0 (zero_le _) ?_
  rintro i hi K1 hK1
  refine gl ?_
  refine gC (fun ht14=>?_) (fun ht14=>?_)
  ·have hin:=aa4 ht14
   obtain ⟨x,hx⟩:=ab0 hin
   refine gi (aaf hx) ?_
   refine gi (aaf hx) ?_
   refine gD ?_
   refine gC (fun ht25=>?_) (fun ht25=>?_) (st1:=(7,0))
   ·exact absurd ht25 (by simp [aab])
   ·refine ga aao ?_
    exact gK1 hK1 (i + 1) hin
  ·refine gE1 ?_
   rfl
end Go.Lw
namespace Go.Lw
open Go.Proofs
theorem Tw.take {ts:List (List Rat)} {r:Nat} (h:Tw ts r) (k:Nat):Tw (ts.take k) r:=by
 have hl:(ts.take k).length <= ts.length:=by rw [length_take]; omega
 have hg:∀ j,j < (ts.take k).length -> j < k /\ j < ts.length:=fun j hj=>by rw [length_take] at hj; omega
 refine ⟨le_trans hl h.three,fun j hj=>?_,fun j hj=>?_,?_,h.le⟩
 ·obtain ⟨h1, h2⟩:=hg j hj
  have h3:=h.len j h2
  rw [getD_eq_getElem?_getD,getElem?_take,if_pos h1,<- getD_eq_getElem?_getD]
  exact h3
 ·obtain ⟨h1, h2⟩:=hg j hj
  have h3:=h.pos j h2
  rw [T.sgn_congr j (fun i hi=>agi (by omega:i < k)),agi h1]
  exact h3
 ·obtain ⟨D, N, h1, h2, h3⟩:=h.rb
  exact ⟨D,N,h1,fun d hd=>h2 d (mem_of_mem_take hd),h3⟩
end Go.Lw
namespace Go.Lw
open Go.Proofs
def bj8 (a:As):Bool:=a.bs.all (fun b=>akf a.rs b.l) && (decide (a.bs.length <= 20) && (akf a.rs [] && decide (a.rs.length <= 2)))
theorem bkm {a:As} (h:bj8 a = true) (ha:a.ok):AL a:=by
 refine (brf (r:=[]) ?_ ha (fun x hx=>by cases hx)).al
 unfold bj8 at h
 unfold vlB
 simp only [and_eq_true,decide_eq_true_eq] at h
 obtain ⟨h1,h2,h3,h4⟩:=h
 rw [h1,h3,decide_eq_true (show a.bs.length <= 20 /\ ([]:List Vr).length <= 20 from ⟨h2,by show 0 <= 20; omega⟩),decide_eq_true (Or.inl h4)]
 rfl
theorem bjj {a:As} (h:a.bs.all (fun b=>akf a.rs b.l) = true) :
  cond (cond (aab .leq (a.bs.length:Int) 20) (akf a.rs []) false) (aab .leq (a.rs.length:Int) 2) false = bj8 a:=by
 have e1:=a5g (n:=a.bs.length) (k:=20)
 have e2:=a5g (n:=a.rs.length) (k:=2)
 unfold bj8
 rw [h,Bool.true_and]
 rw [show aab .leq (a.bs.length:Int) 20 = decide (a.bs.length <= 20) from e1,show aab .leq (a.rs.length:Int) 2 = decide (a.rs.length <= 2) from e2]
 cases akf a.rs [] <;> by_cases c1:a.bs.length <= 20 <;> by_cases c3:a.rs.length <= 2 <;> simp [c1,c3]
theorem az3 (a:As) (ha:a.ok):FnC prog 19 [a.av] (bl (bj8 a)):=by
 have hbl:=ha.bl
 refine gF0 func19 ?_
 refine gl ?_
 refine gL1 [1,6,7] [1] (fun (i:Nat)=>[(8,some (i64 i))]) (fun _=>[]) (fun i=>i <= a.bs.length /\ (a.bs.take i).all (fun b=>akf a.rs b.l) = true) (fun i=>a.bs.length - i) 0 ⟨zero_le _,rfl⟩ ?_
 rintro i ⟨hi,hj⟩ K1 hK1
 refine gC (fun ht9=>?_) (fun ht9=>?_)
 ·have hin:=aa4 ht9
  obtain ⟨b,hb⟩:=ab0 hin
  have hbo:=ha.bs b (mem_of_getElem? hb)
  refine gi (aaf hb) ?_
  refine gc (ast a.rs b.l ha.rs hbo ha.rl (by show 4 <= 100; omega)) ?_
  refine gC (fun ht24=>?_) (fun ht24=>?_)
  ·have h1:=adi ht24
   refine gE1 ?_
   unfold bj8; rw [adh hb h1]; rfl
  ·have h1:=adj ht24
   refine ga aao ?_
   exact gK1 hK1 (i + 1) ⟨hin,aed hj hb h1⟩
 ·have hin:=aaj hi ht9
  refine gl ?_
  refine gcG (fun _=>(Con.subA (.cons (.refl _) (.cons (Sub.nil 1 none 0) .nil)) (ast a.rs [] ha.rs bfd ha.rl (by show 0 <= 100; omega)))) ?_
  refine glG ?_
  refine gE1 ?_
  exact congrArg bl (bjj (af2 hin hj))
end Go.Lw
namespace Go.Lw
theorem a60 {l:Li} {xs:List Tn} (h:bev l xs = true):liB l = true /\ xs.length <= 20 /\ xs.all tnB = true:=by
 unfold bev at h
 simp only [and_eq_true,decide_eq_true_eq] at h
 exact ⟨h.1.1,h.1.2,h.2.1⟩
theorem bnr {x:Tn} (h:tnB x = true) (ho:x.t.wok):x.t.ok /\ Qb 1000 x.t.q:=by
 unfold tnB at h
 rw [decide_eq_true_eq] at h
 have hx:=ho.ok h.1 h.2 (by omega)
 exact ⟨hx,(Rt.qb hx (k:=1) (by omega) h.1 h.2).mono (by omega)⟩
end Go.Lw
namespace Go.Lw
variable {P:Program} {N:Nat}
def rdC (s:AS):Operand -> Option AV
  | .tmp t=>match s.get t with
    | some x=>match x with
      | .opt _ _=>none
      | x=>some x
    | none=>none
  | .const c=>some (.v c)
  | .func f=>some (.v (.func (.func f) #[] #[]))
  | .global _=>none
theorem abc {s:AS} {o:Operand} {x:AV} (h:rdC s o = some x):Ev s o x:=by
 cases o with
 | tmp t =>
  simp only [rdC] at h
  split at h
  ·rename_i y hy
   split at h
   ·cases h
   ·cases h; exact .tmp hy
  ·cases h
 | const c=>cases h; exact .const c
 | func f=>cases h; exact .func f
 | global n=>cases h
def bj5 (s:AS):List Operand -> Option (List AV)
  | []=>some []
  | o :: os=>match rdC s o with
    | some x=>match bj5 s os with
      | some xs=>some (x :: xs)
      | none=>none
    | none=>none
theorem anh {s:AS}:∀ {os:List Operand} {xs:List AV}, bj5 s os = some xs -> EvL s os xs
 | [],xs,h=>by cases h; exact .nil
 | o :: os, xs, h=>by
  unfold bj5 at h
  split at h
  ·rename_i x h1
   split at h
   ·rename_i ys h2; cases h; exact .cons (abc h1) (anh h2)
   ·cases h
  ·cases h
def wN {α:Type} (n:Nat) (f:Nat -> α):α:=match n with
  | 0=>f 0
  | m + 1=>f (m + 1)
theorem au6 {α:Type} (n:Nat) (f:Nat -> α):wN n f = f n:=by cases n <;> rfl
def wI {α:Type} (z:Int) (f:Int -> α):α:=match z with
  | .ofNat n=>match n with
    | 0=>f 0
    | m + 1=>f (Int.ofNat (m + 1))
  | .negSucc n=>f (.negSucc n)
theorem atp {α:Type} (z:Int) (f:Int -> α):wI z f = f z:=by
 cases z with
 | ofNat n=>cases n <;> rfl
 | negSucc n=>rfl
structure V1 where
  x:AV
  rt:List Nat
  rd:List Nat
def be8:Value -> Bool
  | .nilIface=>true
  | .iface _ _=>true
  | _=>false
theorem axq {v:Value} (h:be8 v = true):bhp v:=by
 cases v <;> first | exact .inl rfl | exact .inr ⟨_,_,rfl⟩ | cases h
def bhg:BinOp -> Bool
  | .and | .or | .xor | .andNot=>true
  | _=>false
theorem bdv:∀ {op:BinOp},bhg op = true -> (match op with | .and | .or | .xor | .andNot=>true | _=>false) = true:=by intro op; cases op <;> intro h <;> first | rfl | cases h
def bkb (op:BinOp) (x y:Operand) (k k':IntKind) (a b:Int):Option V1:=match op with
  | .add | .sub | .mul=>match Nat.beq (ikn k) (ikn k') with
    | true=>wI (k.wrap (aeb op a b)) fun z=>some ⟨.v (.int k z),aam x ++ aam y,[]⟩
    | false=>none
  | .quo=>match Nat.beq (ikn k) (ikn k') with
    | true=>match b with
      | .ofNat 0=>none
      | b=>wI (k.wrap (a.tdiv b)) fun z=>some ⟨.v (.int k z),aam x ++ aam y,[]⟩
    | false=>none
  | .rem=>match Nat.beq (ikn k) (ikn k') with
    | true=>match b with
      | .ofNat 0=>none
      | b=>wI (a.tmod b) fun z=>some ⟨.v (.int k z),aam x ++ aam y,[]⟩
    | false=>none
  | .shl=>match b with
    | .ofNat n=>wI (k.wrap (a * 2 ^ (min n k.bits))) fun z=>some ⟨.v (.int k z),aam x ++ aam y,[]⟩
    | .negSucc _=>none
  | .shr=>match b with
    | .ofNat n=>wI (a.fdiv (2 ^ (min n k.bits))) fun z=>some ⟨.v (.int k z),aam x ++ aam y,[]⟩
    | .negSucc _=>none
  | .eql | .neq | .lss | .leq | .gtr | .geq=>match Nat.beq (ikn k) (ikn k') with
    | true=>match aab op a b with
      | true=>some ⟨.v (.bool true),aam x ++ aam y,[]⟩
      | false=>some ⟨.v (.bool false),aam x ++ aam y,[]⟩
    | false=>none
  | op=>match bhg op && Nat.beq (ikn k) (ikn k') with
    | true=>wI (ate op k a b) fun z=>some ⟨.v (.int k z),aam x ++ aam y,[]⟩
    | false=>none
section
variable {s:AS} {R:Array Oper} {d:Nat} {t T:TypeId} {pos:String} {after:Array Edge}
theorem bi2 {op:BinOp} {x y:Operand} {k k':IntKind} {a b:Int} {S:TypeId} {r:V1} (hx:Ev s x (.v (.int k a))) (hy:Ev s y (.v (.int k' b))) (h:bkb op x y k k' a b = some r) (hN:Nat.blt d N = true) :
  Step P N R s ⟨some d,.binOp op S x y T,t,pos,after,none⟩ ⟨some r.x,[],r.rt,r.rd⟩:=by
 have hc:∀ (op:BinOp), bbc op = true -> (match Nat.beq (ikn k) (ikn k') with
  | true=>match aab op a b with
   | true=>some (⟨.v (.bool true),aam x ++ aam y,[]⟩:V1)
   | false=>some ⟨.v (.bool false),aam x ++ aam y,[]⟩
  | false=>none) = some r -> Step P N R s ⟨some d,.binOp op S x y T,t,pos,after,none⟩ ⟨some r.x,[],r.rt,r.rd⟩:=by
  intro op hop h'
  split at h'
  ·rename_i hk
   cases aib hk
   have:=bnb (P:=P) (R:=R) (op:=op) (S:=S) (T:=T) (t:=t) (pos:=pos) (after:=after) hx hy (by cases op <;> simp_all [bbc]) hN
   split at h'
   ·rename_i hb; cases h'; rw [hb] at this; exact this
   ·rename_i hb; cases h'; rw [hb] at this; exact this
  ·cases h'
 have ha:∀ (op:BinOp), bpf op = true -> (match Nat.beq (ikn k) (ikn k') with
  | true=>wI (k.wrap (aeb op a b)) fun z=>some (⟨.v (.int k z),aam x ++ aam y,[]⟩:V1)
  | false=>none) = some r -> Step P N R s ⟨some d,.binOp op S x y T,t,pos,after,none⟩ ⟨some r.x,[],r.rt,r.rd⟩:=by
  intro op hop h'
  split at h'
  ·rename_i hk
   cases aib hk
   rw [atp] at h'
   cases h'
   exact bau hx hy (a86 hop) hN
  ·cases h'
 have hb:∀ (op:BinOp), (match bhg op && Nat.beq (ikn k) (ikn k') with
  | true=>wI (ate op k a b) fun z=>some (⟨.v (.int k z),aam x ++ aam y,[]⟩:V1)
  | false=>none) = some r -> Step P N R s ⟨some d,.binOp op S x y T,t,pos,after,none⟩ ⟨some r.x,[],r.rt,r.rd⟩:=by
  intro op h'
  split at h'
  ·rename_i hk
   simp only [and_eq_true] at hk
   cases aib hk.2
   rw [atp] at h'
   cases h'
   exact bgg hx hy (bdv hk.1) hN
  ·cases h'
 cases op with
 | add=>exact ha _ rfl h
 | sub=>exact ha _ rfl h
 | mul=>exact ha _ rfl h
 | quo =>
  simp only [bkb] at h
  split at h
  ·rename_i hk
   cases aib hk
   split at h
   ·cases h
   ·rename_i hb0
    rw [atp] at h; cases h
    exact blm hx hy (fun e=>hb0 (by rw [e]; rfl)) hN
  ·cases h
 | rem =>
  simp only [bkb] at h
  split at h
  ·rename_i hk
   cases aib hk
   split at h
   ·cases h
   ·rename_i hb0
    rw [atp] at h; cases h
    exact bl4 hx hy (fun e=>hb0 (by rw [e]; rfl)) hN
  ·cases h
 | shl =>
  simp only [bkb] at h
  split at h
  ·rename_i n
   rw [atp] at h
   obtain rfl:=Option.some.inj h
   have:=bnt (P:=P) (R:=R) (S:=S) (T:=T) (t:=t) (pos:=pos) (after:=after) hx hy (Int.natCast_nonneg n) hN
   simp only [Int.ofNat_eq_natCast,toNat_natCast] at this
   exact this
  ·cases h
 | shr =>
  simp only [bkb] at h
  split at h
  ·rename_i n
   rw [atp] at h
   obtain rfl:=Option.some.inj h
   have:=bld (P:=P) (R:=R) (S:=S) (T:=T) (t:=t) (pos:=pos) (after:=after) hx hy (Int.natCast_nonneg n) hN
   simp only [Int.ofNat_eq_natCast,toNat_natCast] at this
   exact this
  ·cases h
 | eql=>exact hc _ rfl h
 | neq=>exact hc _ rfl h
 | lss=>exact hc _ rfl h
 | leq=>exact hc _ rfl h
 | gtr=>exact hc _ rfl h
 | geq=>exact hc _ rfl h
 | _=>exact hb _ h
end
def neB (op:BinOp) (b:Bool):Bool:=match op with
  | .eql=>b
  | _=>!b
def bpt:AV -> Option Bool
  | .v (.slice none 0 0)=>some true
  | .lst _ (_ :: _)=>some false
  | .ms _ _ _ (_ + 1)=>some false
  | _=>none
theorem a7l {S:TypeId} {w:World} {E:TypeId} (h3:(underlying S).run P w = .ok (.slice E) w) {a:Option Addr} {n c:Nat} :
  (Op.equal S (.slice a n c) (.slice none 0 0)).run P w = .ok a.isNone w:=by
 show (Op.equalIn (9999 + 1) S _ _).run P w = _
 rw [Op.equalIn]
 cases a <;> simp [h3]
theorem bi7 {s:AS} {R:Array Oper} {d:Nat} {x:Operand} {xv:AV} {b:Bool} {op:BinOp} {S T t E:TypeId} {ti:TI} {pos:String} {after:Array Edge} (hop:op = .eql \/ op = .neq)
  (hx:Ev s x xv) (hv:bpt xv = some b) (hS:aai P S = some ti) (hk:ti.k = .slice E) (hN:Nat.blt d N = true) :
  Step P N R s ⟨some d,.binOp op S x (.const (.slice none 0 0)) T,t,pos,after,none⟩ ⟨some (.v (.bool (neB op b))),[],aam x,[]⟩ :=
 aaz rfl rfl hN fun s' hag C m a w hr=>⟨.bool (neB op b), by
  have h:=(hx.agree hag (fun _ h=>h)).rep hr
  obtain ⟨d2,h3,h4,-,-⟩:=abp hS w
  obtain rfl:=acl (h4.trans hk)
  have h2:a.eval (.const (.slice none 0 0)) = .slice none 0 0:=rfl
  obtain ⟨ad, n, c, he, hb⟩:∃ ad n c, a.eval x = .slice ad n c /\ ad.isNone = b:=by
   generalize a.eval x = u at h
   unfold bpt at hv
   split at hv
   ·cases hv; cases h; exact ⟨_,_,_,rfl,rfl⟩
   ·cases hv
    cases h with
    | lst u hb hc hl hs h1 hu hr=>exact ⟨_,_,_,rfl,rfl⟩
   ·cases hv
    cases h with
    | ms hm hc hS=>exact ⟨_,_,_,rfl,rfl⟩
   ·cases hv
  have h5:=a7l (P:=P) (a:=ad) (n:=n) (c:=c) h3
  rcases hop with rfl | rfl <;> simp [execOp,he,h2,eqGuard,binOp,h5,hb,neB],.v _⟩
theorem a3q {s:AS} {R:Array Oper} {d:Nat} {x:Operand} {lo hi:Option Operand} {T E t:TypeId} {ti te:TI} {pos:String} {after:Array Edge}
  (hx:Ev s x (.v (.slice none 0 0))) (hl:EvI s lo 0 0) (hh:EvI s hi 0 0) (hT:aai P T = some ti) (hk:ti.k = .slice E) (hE:aai P E = some te) (hN:Nat.blt d N = true) :
  Step P N R s ⟨some d,.slice T x lo hi none,t,pos,after,none⟩ ⟨some (.v (.slice none 0 0)),[],aam x ++ (rtO lo ++ rtO hi),[]⟩ :=
 aaz rfl rfl hN fun s' hag C m a w hr=>by
  have hxv:=al4 hr (hx.agree hag (fun _ h=>List.mem_append.2 (.inl h)))
  have hl':=hl.agree hag (fun _ h=>List.mem_append.2 (.inr (List.mem_append.2 (.inl h))))
  have hh':=hh.agree hag (fun _ h=>List.mem_append.2 (.inr (List.mem_append.2 (.inr h))))
  obtain ⟨d2,hu,h3,-,-⟩:=abp hT w
  obtain rfl:=acl (h3.trans hk)
  have:=adu (P:=P) hr (cap:=0) true hl' hh' (le_refl _) (le_refl _)
  exact ⟨.slice none 0 0,by simp [execOp,hxv,Instr.sliceAt,hu,Instr.slice,this,abb hE],.v _⟩
theorem bap {s:AS} {R:Array Oper} {d:Nat} {x:Operand} {k1 k2:IntKind} {sz:Nat} {es:List AV} {T E t:TypeId} {ti te:TI} {pos:String} {after:Array Edge}
  (hx:Ev s x (.lst sz es)) (hT:aai P T = some ti) (hk:ti.k = .slice E) (hE:aai P E = some te) (hsz:te.size = sz) (hN:Nat.blt d N = true) :
  Step P N R s ⟨some d,.slice T x none (some (.const (.int k1 0))) (some (.const (.int k2 0))),t,pos,after,none⟩ ⟨some (.ms d sz 0 0),[(d,some (.row sz []))],aam x,[]⟩:=by
 refine aux rfl ?_
 intro s' hag hnew C m a w next hC hr hnext
 have hfr:s'.Fresh d:=by
  rcases hnew d (by simp) with h | h
  ·cases h
  ·exact h
 have hxr:=(hx.agree hag (fun _ h=>h)).rep hr
 obtain ⟨d2,hu,h3,-,-⟩:=abp hT w
 obtain rfl:=acl (h3.trans hk)
 obtain ⟨ad, n, c, he⟩:∃ ad n c, a.eval x = .slice ad n c:=by
  generalize a.eval x = u at hxr
  cases hxr with
  | lst0 a cap=>exact ⟨_,_,_,rfl⟩
  | lst u hb hc hl hs h1 hu hr=>exact ⟨_,_,_,rfl⟩
 have e1:a.eval (.const (.int k1 0)) = .int k1 0:=rfl
 have e2:a.eval (.const (.int k2 0)) = .int k2 0:=rfl
 have hex:(execOp a.eval ⟨some d, .slice T x none (some (.const (.int k1 0))) (some (.const (.int k2 0))), t, pos, after, none⟩).run P w = .ok (.value (.slice ad 0 0)) w:=by
  simp [execOp,he,e1,e2,Instr.sliceAt,hu,Instr.slice,Instr.sliceBounds,Instr.sliceBound,asIntOf,abb hE]
 rw [hex]
 rw [Nat.blt_eq] at hN
 simp only [Oper.upon,Act.put]
 obtain ⟨m2,h1⟩:∃ m2,RelM C ⟨s'.sl,(d,some (.row sz [])) :: s'.hp⟩ m2 a w:=⟨_,hr.virt sz hfr⟩
 refine hnext m2 _ _ ?_
 have:=h1.put d (.slice ad 0 0) (some (.ms d sz 0 0)) (fun z hz=>by
  cases hz
  exact ⟨by have:=hr.nt; omega,.ms0 _ _ _ _⟩)
 simpa [AS.app] using this
variable [Inhabited (Tys P)]
def brm:BinOp -> Bool
  | .eql | .neq=>true
  | _=>false
def bop:List UInt8 -> List UInt8 -> Bool
  | [], y=>match y with
    | []=>true
    | _=>false
  | x :: l, y=>match y with
    | x' :: l'=>match Nat.beq x.toNat x'.toNat with
      | true=>bop l l'
      | false=>false
    | []=>false
theorem a0i:∀ {a b:List UInt8}, bop a b = (a == b)
 | [],[]=>rfl
 | [],_ :: _=>rfl
 | _ :: _,[]=>rfl
 | x :: l, x' :: l'=>by
  show (match Nat.beq x.toNat x'.toNat with | true=>bop l l' | false=>false) = _
  cases h:Nat.beq x.toNat x'.toNat with
  | true =>
   have:x = x':=UInt8.toNat_inj.1 (eq_of_beq_eq_true h)
   subst this
   simp only [a0i (a:=l)]
   simp
  | false =>
   have:x ≠ x':=fun e=>Nat.ne_of_beq_eq_false h (by rw [e])
   simp [this]
def bcg (a b:ByteArray):Bool:=bop a.data.toList b.data.toList
theorem azs (a b:ByteArray):(a.toList == b.toList) = bcg a b:=by
 unfold bcg; rw [a0i,ByteArray.toList_eq,ByteArray.toList_eq]
def bq9 (P:Program) [Inhabited (Tys P)] (op:BinOp) (S:TypeId) (x y:Operand) (vx vy:Value):Option V1:=match vx with
  | .int k a=>match vy with
    | .int k' b=>bkb op x y k k' a b
    | _=>none
  | vx=>match vy with
    | .nilIface=>match y with
      | .const _=>match be8 vx with
        | true=>match aim P S with
          | some ti=>match ti.k with
            | .iface _=>match op with
              | .eql=>some ⟨.v (.bool (ago vx)),aam x ++ [],[]⟩
              | .neq=>some ⟨.v (.bool !(ago vx)),aam x ++ [],[]⟩
              | _=>none
            | _=>none
          | none=>none
        | false=>none
      | _=>none
    | .string b=>match vx with
      | .string a=>match op with
        | .eql=>match bcg a b with
          | true=>some ⟨.v (.bool true),aam x ++ aam y,[]⟩
          | false=>some ⟨.v (.bool false),aam x ++ aam y,[]⟩
        | .neq=>match bcg a b with
          | true=>some ⟨.v (.bool false),aam x ++ aam y,[]⟩
          | false=>some ⟨.v (.bool true),aam x ++ aam y,[]⟩
        | _=>none
      | _=>none
    | vy=>match bj9 P op S x y [] vx vy with
      | some r=>match r.ob with
        | []=>some ⟨r.x,r.rt,r.rd⟩
        | _=>none
      | none=>none
def bhc (P:Program) [Inhabited (Tys P)] (T sz:Nat):Bool:=match aim P T with
  | some ti=>match ti.k with
    | .slice E=>match aim P E with
      | some te=>Nat.beq te.size sz
      | none=>false
    | _=>false
  | none=>false
theorem aq5 {T sz:Nat} (h:bhc P T sz = true):∃ ti E te, aai P T = some ti /\ ti.k = .slice E /\ aai P E = some te /\ te.size = sz:=by
 unfold bhc at h
 split at h
 ·rename_i ti hti
  split at h
  ·rename_i E hk
   split at h
   ·rename_i te hte
    exact ⟨ti,E,te,aaw hti,hk,aaw hte,eq_of_beq_eq_true h⟩
   ·cases h
  ·cases h
 ·cases h
def bdC (s:AS) (o:Option Operand) (d:Nat):Option Nat:=match o with
  | none=>some d
  | some x=>match rdC s x with
    | some (.v (.int _ (.ofNat n)))=>some n
    | _=>none
theorem ar9 {s:AS} {o:Option Operand} {d n:Nat} (h:bdC s o d = some n):EvI s o d n:=by
 cases o with
 | none=>cases h; exact .none d
 | some x =>
  simp only [bdC] at h
  split at h
  ·rename_i hx
   cases h
   exact .some (i:=Int.ofNat n) d (abc hx) (Int.natCast_nonneg _)
  ·cases h
def ldE (ti:TI) (l:List AV):Option AV:=match ti.ag with
  | true=>match frc (l.take ti.size) with
    | some r=>some (.agg r)
    | none=>none
  | false=>match Nat.beq ti.size 1 with
    | true=>match l with
      | x :: _=>some x
      | []=>none
    | false=>none
theorem bmk {ti:TI} {l:List AV} {x:AV} (h:ldE ti l = some x):(ti.ag || Nat.beq ti.size 1) = true /\ x = mkT ti.ag (l.take ti.size):=by
 unfold ldE at h
 split at h
 ·rename_i ha
  split at h
  ·rename_i r hr; cases h; rw [ha,ag4 hr]; exact ⟨rfl,rfl⟩
  ·cases h
 ·rename_i ha
  split at h
  ·rename_i h1
   split at h
   ·cases h; rw [ha,eq_of_beq_eq_true h1]; exact ⟨rfl,rfl⟩
   ·cases h
  ·cases h
def bkd:List AV -> List AV -> Option (List Value × List Nat)
  | [],[]=>some ([],[])
  | .v (.int .i64 a) :: l, .v (.int .i64 b) :: l'=>match a == b with
    | true=>match bkd l l' with
      | some (vs,ks)=>some (.int .i64 a :: vs,1 :: ks)
      | none=>none
    | false=>none
  | .v (.string a) :: l, .v (.string b) :: l'=>match bcg a b with
    | true=>match bkd l l' with
      | some (vs,ks)=>some (.string a :: vs,2 :: ks)
      | none=>none
    | false=>none
  | _,_=>none
theorem bjb {a b:ByteArray} (h:bcg a b = true):a = b:=by
 rw [<- azs,beq_iff_eq,ByteArray.toList_eq,ByteArray.toList_eq] at h
 cases a; cases b; congr 1
 exact Array.ext' h
theorem ay6:∀ {l l':List AV} {vs:List Value} {ks:List Nat}, bkd l l' = some (vs, ks) -> l = vs.map .v /\ l' = vs.map .v /\ vs.map vk = ks
 | [],[],_,_,h=>by cases h; exact ⟨rfl,rfl,rfl⟩
 | .v (.int .i64 a) :: l, .v (.int .i64 b) :: l', _, _, h=>by
  rw [bkd] at h
  split at h
  ·rename_i he
   split at h
   ·rename_i vs ks hs
    obtain ⟨h1,h2,h3⟩:=ay6 hs
    cases h
    cases eq_of_beq he
    exact ⟨by rw [h1]; rfl,by rw [h2]; rfl,by rw [<- h3]; rfl⟩
   ·cases h
  ·cases h
 | .v (.string a) :: l, .v (.string b) :: l', _, _, h=>by
  rw [bkd] at h
  split at h
  ·rename_i he
   split at h
   ·rename_i vs ks hs
    obtain ⟨h1,h2,h3⟩:=ay6 hs
    cases h
    cases bjb he
    exact ⟨by rw [h1]; rfl,by rw [h2]; rfl,by rw [<- h3]; rfl⟩
   ·cases h
  ·cases h
def bqw (P:Program) (op:BinOp) (S:TypeId) (x y:Operand) (cs cs':List AV):Option V1:=match op with
  | .neq=>match bkd cs cs' with
    | some (_, ks)=>match bor P S ks with
      | true=>some ⟨.v (.bool false),aam x ++ aam y,[]⟩
      | false=>none
    | none=>none
  | _=>none
omit [Inhabited (Tys P)] in
theorem bi0 {s:AS} {R:Array Oper} {d:Nat} {x y:Operand} {cs cs':List AV} {op:BinOp} {S T t:TypeId} {pos:String} {after:Array Edge} {r:V1} (h:bqw P op S x y cs cs' = some r)
  (hx:Ev s x (.agg cs)) (hy:Ev s y (.agg cs')) (hN:Nat.blt d N = true):Step P N R s ⟨some d,.binOp op S x y T,t,pos,after,none⟩ ⟨some r.x,[],r.rt,r.rd⟩:=by
 unfold bqw at h
 split at h
 ·split at h
  ·rename_i vs ks hs
   obtain ⟨h1,h2,h3⟩:=ay6 hs
   subst h1; subst h2
   split at h
   ·rename_i hS; cases h; exact bl1 hx hy h3 hS hN
   ·cases h
  ·cases h
 ·cases h
def bo6 (P:Program) (t:TypeId):Bool:=match P.underlying t with | some (.pointer _)=>true | _=>false
omit [Inhabited (Tys P)] in
theorem bnm {t:TypeId} (h:bo6 P t = true):P.underlying t = some (.pointer (P.pointee t)):=by
 unfold bo6 at h
 split at h
 ·rename_i e he
  rw [he]
  unfold Program.pointee
  rw [he]
 ·cases h
omit [Inhabited (Tys P)] in
theorem bgp {s:AS} {R:Array Oper} {d:Nat} {x:Operand} {k off:Nat} {op:BinOp} {S T t:TypeId} {pos:String} {after:Array Edge} (hop:op = .eql \/ op = .neq)
  (hx:Ev s x (.ptr k off)) (hS:bo6 P S = true) (hN:Nat.blt d N = true) :
  Step P N R s ⟨some d,.binOp op S x (.const (.pointer none)) T,t,pos,after,none⟩ ⟨some (.v (.bool (neB op false))),[],aam x,[]⟩ :=
 aaz rfl rfl hN fun s' hag C m a w hr=>⟨.bool (neB op false), by
  have h:=(hx.agree hag (fun _ h=>h)).rep hr
  have h2:a.eval (.const (.pointer none)) = .pointer none:=rfl
  have hu:=bnm hS
  generalize ha:a.eval x = u at h
  cases h
  rcases hop with rfl | rfl
  ·simp [execOp,ha,h2,eqGuard,run_eql_pointer_nil w S _ hu,neB]
  ·simp [execOp,ha,h2,eqGuard,run_neq_pointer_nil w S _ hu,neB],.v _⟩
def ptV (P:Program) (op:BinOp) (S:TypeId) (x y:Operand):Option V1:=match y with
  | .const (.pointer none)=>match brm op with
    | true=>match bo6 P S with
      | true=>match op with
        | .eql=>some ⟨.v (.bool false),aam x,[]⟩
        | _=>some ⟨.v (.bool true),aam x,[]⟩
      | false=>none
    | false=>none
  | _=>none
omit [Inhabited (Tys P)] in
theorem blq {s:AS} {R:Array Oper} {d:Nat} {x y:Operand} {k off:Nat} {op:BinOp} {S T t:TypeId} {pos:String} {after:Array Edge} {r:V1} (h:ptV P op S x y = some r)
  (hx:Ev s x (.ptr k off)) (hN:Nat.blt d N = true):Step P N R s ⟨some d,.binOp op S x y T,t,pos,after,none⟩ ⟨some r.x,[],r.rt,r.rd⟩:=by
 unfold ptV at h
 split at h
 ·split at h
  ·rename_i hop
   have hop:op = .eql \/ op = .neq:=by cases op <;> first | exact .inl rfl | exact .inr rfl | cases hop
   split at h
   ·rename_i hS
    have h9:=bgp (P:=P) (R:=R) (T:=T) (t:=t) (pos:=pos) (after:=after) hop hx hS hN
    rcases hop with rfl | rfl <;> (cases h; exact h9)
   ·cases h
  ·cases h
 ·cases h
def brp (P:Program) (op:BinOp) (S:TypeId) (x y:Operand) (a b c e:Int):Option V1:=match op with
  | .eql=>match bo4 P S with
    | true=>match a == c && b == e with
      | true=>some ⟨.v (.bool true),aam x ++ aam y,[]⟩
      | false=>some ⟨.v (.bool false),aam x ++ aam y,[]⟩
    | false=>none
  | _=>none
def opV (P:Program) [Inhabited (Tys P)] (s:AS) (op:Op):Option V1:=match op with
  | .pick c x y=>match rdC s c with
    | some (.v (.bool b))=>match b with
      | true=>match rdC s x with
        | some (.v (.bool z))=>some ⟨.v (.bool z),aam c ++ (aam x ++ aam y),[]⟩
        | _=>none
      | false=>match rdC s y with
        | some (.v (.bool z))=>some ⟨.v (.bool z),aam c ++ (aam x ++ aam y),[]⟩
        | _=>none
    | _=>none
  | .binOp op S x (.const (.slice none 0 0)) _=>match brm op with
    | true=>match rdC s x with
      | some xv=>match bpt xv with
        | some b=>match aim P S with
          | some ti=>match ti.k with
            | .slice _=>match op with
              | .eql=>some ⟨.v (.bool b),aam x,[]⟩
              | _=>match b with
                | true=>some ⟨.v (.bool false),aam x,[]⟩
                | false=>some ⟨.v (.bool true),aam x,[]⟩
            | _=>none
          | none=>none
        | none=>none
      | none=>none
    | false=>none
  | .binOp op S x y _=>match rdC s x with
    | some (.v vx)=>match rdC s y with
      | some (.v vy)=>bq9 P op S x y vx vy
      | _=>none
    | some (.agg [.v (.int .i64 a), .v (.int .i64 b)])=>match rdC s y with
      | some (.agg [.v (.int .i64 c),.v (.int .i64 e)])=>brp P op S x y a b c e
      | _=>none
    | some (.ptr _ _)=>ptV P op S x y
    | some (.agg cs)=>match rdC s y with
      | some (.agg cs')=>bqw P op S x y cs cs'
      | _=>none
    | _=>none
  | .unOp .neg _ x=>match rdC s x with
    | some (.v (.int k n))=>wI (k.wrap (0 - n)) fun z=>some ⟨.v (.int k z),aam x,[]⟩
    | _=>none
  | .convert S T x=>match rdC s x with
    | some (.v (.int _ n))=>match aim P S with
      | some _=>match aim P T with
        | some ti=>match ti.k with
          | .int k'=>wI (k'.wrap n) fun z=>some ⟨.v (.int k' z),aam x,[]⟩
          | _=>none
        | none=>none
      | none=>none
    | _=>none
  | .indexAddr T x ix=>match rdC s ix with
    | some (.v (.int _ (.ofNat i)))=>match rdC s x with
      | some (.lst sz es)=>match bhc P T sz with
        | true=>match es[i]? with
          | some e=>some ⟨.iptr e.cells,aam x ++ aam ix,[]⟩
          | none=>none
        | false=>none
      | some (.ms k sz off len)=>match bhc P T sz && Nat.blt i len with
        | true=>wN (off + i) fun n=>some ⟨.eptr k sz n 0,aam x ++ aam ix,[]⟩
        | false=>none
      | some (.ptr k off)=>match aim P T with
        | some ti=>match ti.k with
          | .array n E=>match aim P E with
            | some te=>match Nat.blt i n with
              | true=>wN (off + i * te.size) fun m=>some ⟨.ptr k m,aam x ++ aam ix,[]⟩
              | false=>none
            | none=>none
          | _=>none
        | none=>none
      | _=>none
    | _=>none
  | .load T x=>match rdC s x with
    | some (.eptr k sz i off)=>match s.blk k with
      | some (.row sz' es)=>match Nat.beq sz sz' with
        | true=>match es[i]? with
          | some e=>match aim P T with
            | some ti=>match Nat.ble (off + ti.size) e.cells.length with
              | true=>match ldE ti (e.cells.drop off) with
                | some v=>some ⟨v,aam x,[k]⟩
                | none=>none
              | false=>none
            | none=>none
          | none=>none
        | false=>none
      | _=>none
    | some y=>match aim P T with
      | some ti=>match a4w P s ti x [] y with
        | some r=>some ⟨r.x,r.rt,r.rd⟩
        | none=>none
      | none=>none
    | none=>none
  | .index T x ix=>match rdC s ix with
    | some (.v (.int _ (.ofNat i)))=>match rdC s x with
      | some (.v (.string b))=>match aim P T with
        | some ti=>match ti.k with
          | .string=>match Nat.blt i b.size with
            | true=>wN (b.data.getD i 0).toNat fun n=>some ⟨.v (.int .u8 (Int.ofNat n)),aam x ++ aam ix,[]⟩
            | false=>none
          | _=>none
        | none=>none
      | _=>none
    | _=>none
  | .slice T x lo hi none=>match rdC s x with
    | some (.lst sz es)=>match bdC s lo 0 with
      | some l=>match bdC s hi es.length with
        | some h=>match bhc P T sz && Nat.ble l h && Nat.ble h es.length with
          | true=>match frc ((es.drop l).take (h - l)) with
            | some r=>some ⟨.lst sz r,aam x ++ (rtO lo ++ rtO hi),[]⟩
            | none=>none
          | false=>none
        | none=>none
      | none=>none
    | some (.v (.slice none 0 0))=>match bdC s lo 0 with
      | some 0=>match bdC s hi 0 with
        | some 0=>match aim P T with
          | some ti=>match ti.k with
            | .slice E=>match aim P E with
              | some _=>some ⟨.v (.slice none 0 0),aam x ++ (rtO lo ++ rtO hi),[]⟩
              | none=>none
            | _=>none
          | none=>none
        | _=>none
      | _=>none
    | some (.ms k sz off len)=>match bdC s lo 0 with
      | some l=>match bdC s hi len with
        | some h=>match bhc P T sz && Nat.ble l h && Nat.ble h len with
          | true=>wN (off + l) fun a=>wN (h - l) fun b=>some ⟨.ms k sz a b,aam x ++ (rtO lo ++ rtO hi),[]⟩
          | false=>none
        | none=>none
      | none=>none
    | _=>none
  | .call ⟨.builtin .len, args, ts⟩=>match args.toList with
    | [x]=>match ts.toList with
      | [T]=>match rdC s x with
        | some (.lst _ es)=>match aim P T with
          | some ti=>match ti.k with
            | .slice _=>wN es.length fun n=>some ⟨.v (.int .i64 (Int.ofNat n)),aam x,[]⟩
            | _=>none
          | none=>none
        | some y=>match bkc P x T [] y with
          | some r=>some ⟨r.x,r.rt,r.rd⟩
          | none=>none
        | none=>none
      | _=>none
    | _=>none
  | .call ⟨.builtin .max, args, ts⟩=>match args.toList with
    | [x, y]=>match rdC s x with
      | some (.v (.int .i64 a))=>match rdC s y with
        | some (.v (.int .i64 b))=>wI (if b > a then b else a) fun z=>some ⟨.v (.int .i64 z),aam x ++ aam y,[]⟩
        | _=>none
      | _=>none
    | _=>none
  | op=>match a6l P false True s op with
    | some r=>match r.ob with
      | []=>some ⟨r.x,r.rt,r.rd⟩
      | _=>none
    | none=>none
omit [Inhabited (Tys P)] in
theorem bks {N d:Nat} {s:AS} {R:Array Oper} {x y:Operand} {a b:Int} {t:TypeId} {ts:Array TypeId} {pos:String} {after:Array Edge} (hx:Ev s x (.v (.int .i64 a))) (hy:Ev s y (.v (.int .i64 b))) (hN:Nat.blt d N = true) :
  Step P N R s ⟨some d,.call ⟨.builtin .max,#[x,y],ts⟩,t,pos,after,none⟩ ⟨some (.v (.int .i64 (if b > a then b else a))),[],aam x ++ aam y,[]⟩ :=
 aaz rfl rfl hN fun s' hag C m ac w hr=>⟨.int .i64 (if b > a then b else a), by
  have h:=(hx.agree hag (fun _ h=>List.mem_append.2 (.inl h))).rep hr
  have h':=(hy.agree hag (fun _ h=>List.mem_append.2 (.inr h))).rep hr
  generalize hu:ac.eval x = u at h
  generalize hv:ac.eval y = v at h'
  cases h; cases h'
  simp [execOp,resolve,hu,hv,invoke,builtin,Builtin.max_,Builtin.max2],.v _⟩
section
variable {s:AS} {R:Array Oper} {d:Nat} {t T:TypeId} {pos:String} {after:Array Edge}
theorem bhd {op:BinOp} {x y:Operand} {vx vy:Value} {S:TypeId} {r:V1} (hx:Ev s x (.v vx)) (hy:Ev s y (.v vy)) (h:bq9 P op S x y vx vy = some r) (hN:Nat.blt d N = true) :
  Step P N R s ⟨some d,.binOp op S x y T,t,pos,after,none⟩ ⟨some r.x,[],r.rt,r.rd⟩:=by
 unfold bq9 at h
 split at h
 ·split at h
  ·exact bi2 hx hy h hN
  ·cases h
 ·split at h
  ·split at h
   ·rename_i c
    have hc:c = .nilIface:=by cases hy; rfl
    subst hc
    split at h
    ·rename_i he
     split at h
     ·rename_i ti hti
      split at h
      ·rename_i hk
       split at h
       ·cases h; exact a5n hx (axq he) (aaw hti) hk hN
       ·cases h; exact a71 hx (axq he) (aaw hti) hk hN
       ·cases h
      ·cases h
     ·cases h
    ·cases h
   ·cases h
  ·split at h
   ·split at h
    ·have h9:=a1k (P:=P) (R:=R) (S:=S) (T:=T) (t:=t) (pos:=pos) (after:=after) hx hy hN
     rw [azs] at h9
     split at h
     ·rename_i hb; rw [hb] at h9; cases h; exact h9
     ·rename_i hb; rw [hb] at h9; cases h; exact h9
    ·have h9:=a7w (P:=P) (R:=R) (S:=S) (T:=T) (t:=t) (pos:=pos) (after:=after) hx hy hN
     rw [azs] at h9
     split at h
     ·rename_i hb; rw [hb] at h9; cases h; exact h9
     ·rename_i hb; rw [hb] at h9; cases h; exact h9
    ·cases h
   ·cases h
  ·split at h
   ·rename_i r' h1
    split at h
    ·rename_i ho; cases h; exact a91 hx hy h1 (by rw [ho]; exact .nil) hN
    ·cases h
   ·cases h
theorem a5x {op:Op} {r:V1} (h:opV P s op = some r) (hN:Nat.blt d N = true):Step P N R s ⟨some d, op, t, pos, after, none⟩ ⟨some r.x, [], r.rt, r.rd⟩:=by
 unfold opV at h
 split at h
 ·split at h
  ·rename_i hc
   split at h
   ·split at h
    ·rename_i z hz; cases h
     exact a9h (bz:=z) (abc hc) (fun _=>abc hz) (fun e=>by cases e) hN
    ·cases h
   ·split at h
    ·rename_i z hz; cases h
     exact a9h (bx:=z) (abc hc) (fun e=>by cases e) (fun _=>abc hz) hN
    ·cases h
  ·cases h
 ·rename_i op S x T
  split at h
  ·rename_i hop
   have hop:op = .eql \/ op = .neq:=by cases op <;> first | exact .inl rfl | exact .inr rfl | cases hop
   split at h
   ·rename_i xv hx
    split at h
    ·rename_i b hv
     split at h
     ·rename_i ti hti
      split at h
      ·rename_i hk
       have h9:=bi7 (P:=P) (R:=R) (T:=T) (t:=t) (pos:=pos) (after:=after) hop (abc hx) hv (aaw hti) hk hN
       rcases hop with rfl | rfl
       ·cases h; exact h9
       ·cases b <;> (cases h; exact h9)
      ·cases h
     ·cases h
    ·cases h
   ·cases h
  ·cases h
 ·rename_i T hne
  split at h
  ·rename_i hx
   split at h
   ·rename_i hy; exact bhd (abc hx) (abc hy) h hN
   ·cases h
  ·rename_i hx
   split at h
   ·rename_i hy
    unfold brp at h
    split at h
    ·split at h
     ·rename_i he
      have h9:=bma (P:=P) (R:=R) (T:=T) (t:=t) (pos:=pos) (after:=after) (abc hx) (abc hy) he hN
      split at h
      ·rename_i hb; rw [hb] at h9; cases h; exact h9
      ·rename_i hb; rw [hb] at h9; cases h; exact h9
     ·cases h
    ·cases h
   ·cases h
  ·rename_i hx; exact blq h (abc hx) hN
  ·rename_i hx
   split at h
   ·rename_i hy; exact bi0 h (abc hx) (abc hy) hN
   ·cases h
  ·cases h
 ·split at h
  ·rename_i hx; rw [atp] at h; cases h; exact bc6 (abc hx) hN
  ·cases h
 ·split at h
  ·rename_i hx
   split at h
   ·rename_i hS
    split at h
    ·rename_i hT
     split at h
     ·rename_i hk; rw [atp] at h; cases h; exact bn7 (abc hx) hN (aaw hS) (aaw hT) hk
     ·cases h
    ·cases h
   ·cases h
  ·cases h
 ·split at h
  ·rename_i i hi
   split at h
   ·rename_i hx
    split at h
    ·rename_i hs
     obtain ⟨ti,E,te,h1,h2,h3,h4⟩:=aq5 hs
     split at h
     ·rename_i e he; cases h
      exact a2o (i:=Int.ofNat i) (abc hx) (abc hi) h1 h2 h3 h4 (Int.natCast_nonneg _) he hN
     ·cases h
    ·cases h
   ·rename_i hx
    split at h
    ·rename_i hs
     simp only [and_eq_true,Nat.blt_eq] at hs
     obtain ⟨ti,E,te,h1,h2,h3,h4⟩:=aq5 hs.1
     rw [au6] at h; cases h
     exact aia (i:=Int.ofNat i) (abc hx) (abc hi) h1 h2 h3 h4 (Int.natCast_nonneg _) (Int.ofNat_lt.2 hs.2) hN
    ·cases h
   ·rename_i hx
    split at h
    ·rename_i hT
     split at h
     ·rename_i hk
      split at h
      ·rename_i hE
       split at h
       ·rename_i hlt
        rw [au6] at h; cases h
        exact bir (i:=Int.ofNat i) (abc hx) (abc hi) (aaw hT) hk (aaw hE) rfl (Int.natCast_nonneg _) (Int.ofNat_lt.2 (by rw [Nat.blt_eq] at hlt; exact hlt)) hN
       ·cases h
      ·cases h
     ·cases h
    ·cases h
   ·cases h
  ·cases h
 ·split at h
  ·rename_i hx
   split at h
   ·rename_i hk
    split at h
    ·rename_i hs
     split at h
     ·rename_i e he
      split at h
      ·rename_i ti hT
       split at h
       ·rename_i hle
        split at h
        ·rename_i v hv
         cases h
         cases eq_of_beq_eq_true hs
         obtain ⟨h1,rfl⟩:=bmk hv
         exact aaa (abc hx) hk he (aaw hT) hle h1 hN
        ·cases h
       ·cases h
      ·cases h
     ·cases h
    ·cases h
   ·cases h
  ·rename_i hx
   split at h
   ·rename_i ti hT
    split at h
    ·rename_i h1; cases h; exact a2m (abc hx) (aaw hT) h1 hN
    ·cases h
   ·cases h
  ·cases h
 ·split at h
  ·rename_i i hi
   split at h
   ·rename_i hx
    split at h
    ·rename_i ti hT
     split at h
     ·rename_i hk
      split at h
      ·rename_i hb
       rw [Nat.blt_eq] at hb
       rw [au6] at h; cases h
       exact al7 (i:=Int.ofNat i) (abc hx) (abc hi) (aaw hT) hk (Int.natCast_nonneg _) (Int.ofNat_lt.2 hb) hN
      ·cases h
     ·cases h
    ·cases h
   ·cases h
  ·cases h
 ·split at h
  ·rename_i hx
   split at h
   ·rename_i l hl
    split at h
    ·rename_i hh hhi
     split at h
     ·rename_i hs
      simp only [and_eq_true,Nat.ble_eq] at hs
      obtain ⟨ti,E,te,h1,h2,h3,h4⟩:=aq5 hs.1.1
      split at h
      ·rename_i hr; cases h; cases ag4 hr
       exact aar (abc hx) (ar9 hl) (ar9 hhi) h1 h2 h3 h4 hs.1.2 hs.2 hN
      ·cases h
     ·cases h
    ·cases h
   ·cases h
  ·rename_i hx
   split at h
   ·rename_i hl
    split at h
    ·rename_i hh
     split at h
     ·rename_i ti hT
      split at h
      ·rename_i E hk
       split at h
       ·rename_i te hE
        cases h
        exact a3q (abc hx) (ar9 hl) (ar9 hh) (aaw hT) hk (aaw hE) hN
       ·cases h
      ·cases h
     ·cases h
    ·cases h
   ·cases h
  ·rename_i hx
   split at h
   ·rename_i l hl
    split at h
    ·rename_i hh hhi
     split at h
     ·rename_i hs
      simp only [and_eq_true,Nat.ble_eq] at hs
      obtain ⟨ti,E,te,h1,h2,h3,h4⟩:=aq5 hs.1.1
      rw [au6,au6] at h; cases h
      exact aje (abc hx) (ar9 hl) (ar9 hhi) h1 h2 h3 h4 hs.1.2 hs.2 hN
     ·cases h
    ·cases h
   ·cases h
  ·cases h
 ·rename_i args ts
  split at h
  ·rename_i x hx
   split at h
   ·rename_i T hT
    have e1:args = #[x]:=by apply Array.toList_inj.1; simpa using hx
    have e2:ts = #[T]:=by apply Array.toList_inj.1; simpa using hT
    subst e1; subst e2
    split at h
    ·rename_i h1
     split at h
     ·rename_i ti hti
      split at h
      ·rename_i hk; rw [au6] at h; cases h; exact aga (abc h1) (aaw hti) hk hN
      ·cases h
     ·cases h
    ·rename_i h1
     split at h
     ·rename_i h2; cases h; exact a5q (abc h1) h2 hN
     ·cases h
    ·cases h
   ·cases h
  ·cases h
 ·rename_i args ts
  split at h
  ·rename_i x y hx
   split at h
   ·rename_i h1
    split at h
    ·rename_i h2
     have e1:args = #[x,y]:=by apply Array.toList_inj.1; simpa using hx
     subst e1
     rw [atp] at h; cases h; exact bks (abc h1) (abc h2) hN
    ·cases h
   ·cases h
  ·cases h
 ·split at h
  ·rename_i h1
   split at h
   ·rename_i ho; cases h; exact ao4 h1 (by rw [ho]; exact .nil) trivial hN
   ·cases h
  ·cases h
end
end Go.Lw
namespace Go.Lw
variable {P:Program} {N:Nat}
def tr (a b k:Nat):Nat:=match Nat.beq k a with
  | true=>b
  | false=>match Nat.beq k b with
    | true=>a
    | false=>k
theorem bpp (a b k:Nat):tr a b k = if k = a then b else if k = b then a else k:=by
 unfold tr
 split
 ·rename_i h; rw [if_pos (eq_of_beq_eq_true h)]
 ·rename_i h; rw [if_neg (Nat.ne_of_beq_eq_false h)]
  split
  ·rename_i h; rw [if_pos (eq_of_beq_eq_true h)]
  ·rename_i h; rw [if_neg (Nat.ne_of_beq_eq_false h)]
theorem bb5 (a b k:Nat):tr a b (tr a b k) = k:=by
 simp only [bpp]
 by_cases h1:k = a
 ·subst h1
  by_cases h2:b = k
  ·simp [h2]
  ·simp [h2]
 ·by_cases h2:k = b
  ·subst h2; simp [h1]
  ·simp [h1,h2]
theorem a95 {σ:Nat -> Nat} (hσ:∀ k, σ (σ k) = k):∀ H:Hp, pmH σ (pmH σ H) = H
 | []=>rfl
 | (k, x) :: l=>by
  simp only [pmH,hσ,a95 hσ l]
  cases x with
  | none=>rfl
  | some x=>simp only [Blk.pm_pm hσ]
def tA:List (Nat × Nat) -> List AV -> List AV
  | [],xs=>xs
  | p :: L,xs=>tA L (xs.map (AV.pm (tr p.1 p.2)))
def tH:List (Nat × Nat) -> Hp -> Hp
  | [],H=>H
  | p :: L,H=>tH L (pmH (tr p.1 p.2) H)
def rB:List (Nat × Nat) -> AV -> AV
  | [],r=>r
  | p :: L,r=>(rB L r).pm (tr p.1 p.2)
def hB:List (Nat × Nat) -> Hp -> Hp
  | [],H=>H
  | p :: L,H=>pmH (tr p.1 p.2) (hB L H)
theorem brs {f:FuncId}:∀ {L:List (Nat × Nat)} {xs:List AV} {H H':Hp} {r:AV}, Con P f (tA L xs) (tH L H) r H' -> Con P f xs H (rB L r) (hB L H')
 | [],xs,H,H',r,h=>h
 | p :: L, xs, H, H', r, h=>by
  have h1:=(brs (L:=L) h).pm (bb5 p.1 p.2)
  rw [a95 (bb5 p.1 p.2),map_map] at h1
  have e:(AV.pm (tr p.1 p.2) ∘ AV.pm (tr p.1 p.2)) = id:=by funext x; exact AV.pm_pm (bb5 p.1 p.2) x
  rw [e,List.map_id] at h1
  exact h1
def brh:Nat -> List Nat -> List (Nat × Nat)
  | _,[]=>[]
  | b,k :: ks=>(k,b) :: brh (b + 1) ks
def a3m (k:Nat):List Nat -> Bool
  | []=>false
  | x :: l=>match Nat.beq k x with
    | true=>true
    | false=>a3m k l
def a3t (s:AS):Nat -> List Nat -> List Nat -> List Nat
  | 0,_,acc=>acc
  | n + 1, ks, acc=>match ks with
    | []=>acc
    | k :: ks=>match a3m k acc with
      | true=>a3t s n ks acc
      | false=>match s.blk k with
        | some z=>a3t s n (z.nm ++ ks) (acc ++ [k])
        | none=>a3t s n ks acc
def pkH (s:AS):List Nat -> Hp
  | []=>[]
  | k :: ks=>match s.blk k with
    | some z=>(k,some z) :: pkH s ks
    | none=>pkH s ks
theorem ave {s:AS}:∀ {ks:List Nat} {k:Nat} {z:Blk}, lk (pkH s ks) k = some z -> lk s.hp k = some z
 | [],k,z,h=>by cases h
 | k' :: ks, k, z, h=>by
  unfold pkH at h
  split at h
  ·rename_i y hy
   rw [aad] at h
   split at h
   ·rename_i e; cases h; rw [e]; exact hy
   ·exact ave h
  ·exact ave h
structure Ent (P:Program) where
  f:FuncId
  xs:List AV
  r:AV
  H':Hp
  con:Con P f xs [] r H'
structure FE (P:Program) where
  f:FuncId
  fn:Func
  c:Code
  rs:List ResultVar
  hf:P.funcs[f]? = some fn
  hb:fn.body = some c
  hn : (fn.name == "runtime.NumGoroutine") = false
  hrs:fn.results = rs.toArray
structure Env (P:Program) where
  orc:FuncId -> Option (List AV -> Option (Ent P))
  fe:FuncId -> Option (FE P)
  mt:FuncId -> Bool
def vEq:Value -> Value -> Bool
  | .int k a,.int k' b=>Nat.beq (ikn k) (ikn k') && aab .eql a b
  | .bool a,.bool b=>a == b
  | .nilIface,.nilIface=>true
  | .string a,.string b=>bcg a b
  | .slice none 0 0,.slice none 0 0=>true
  | .func (.func f) ⟨[]⟩ ⟨[]⟩,.func (.func g) ⟨[]⟩ ⟨[]⟩=>Nat.beq f g
  | .nilFunc,.nilFunc=>true
  | .pointer none,.pointer none=>true
  | .iface T v,.iface T' v'=>Nat.beq T T' && vEq v v'
  | _,_=>false
theorem bg0 {a b:ByteArray} (h:bcg a b = true):a = b:=by
 unfold bcg at h
 rw [a0i] at h
 have h:=eq_of_beq h
 have e:∀ c:ByteArray,c = ⟨⟨c.data.toList⟩⟩:=fun c=>by cases c; rfl
 rw [e a,e b,h]
theorem a10:∀ (a b:Value), vEq a b = true -> a = b
 | .iface T v, b, h=>by
  cases b with
  | iface T' v' =>
   simp only [vEq,and_eq_true] at h
   rw [eq_of_beq_eq_true h.1,a10 v v' h.2]
  | _=>simp [vEq] at h
 | .int k a, b, h=>by
  cases b with
  | int k' b =>
   simp only [vEq,and_eq_true] at h
   rw [aib h.1,eq_of_beq (show (a == b) = true from h.2)]
  | _=>simp [vEq] at h
 | .bool a, b, h=>by
  cases b with
  | bool b=>simp only [vEq,beq_iff_eq] at h; rw [h]
  | _=>simp [vEq] at h
 | .string a, b, h=>by
  cases b with
  | string b=>simp only [vEq] at h; rw [bg0 h]
  | _=>simp [vEq] at h
 | .nilIface, b, h=>by
  cases b <;> simp [vEq] at h
  rfl
 | .slice x n c, b, h=>by
  unfold vEq at h
  split at h <;> simp_all
 | .float ..,b,h=>by simp [vEq] at h
 | .complex ..,b,h=>by simp [vEq] at h
 | .pointer p, b, h=>by
  unfold vEq at h
  split at h <;> simp_all
 | .map _,b,h=>by simp [vEq] at h
 | .chan _,b,h=>by simp [vEq] at h
 | .func f x y, b, h=>by
  unfold vEq at h
  split at h <;> first | (simp_all; done) | (simp_all; exact eq_of_beq_eq_true h)
 | .nilFunc, b, h=>by
  unfold vEq at h
  split at h <;> simp_all
 | .agg _,b,h=>by simp [vEq] at h
 | .tuple _,b,h=>by simp [vEq] at h
mutual
def aov:AV -> AV -> Bool
  | .v a, y=>match y with
    | .v b=>vEq a b
    | .lst _ es=>match es with
      | []=>match a with
        | .slice _ 0 _=>true
        | _=>false
      | _=>false
    | _=>false
  | .lst sz es, y=>match y with
    | .lst sz' es'=>Nat.beq sz sz' && az5 es es'
    | _=>false
  | .agg cs, y=>match y with
    | .agg cs'=>ayo cs cs'
    | _=>false
  | .tup cs, y=>match y with
    | .tup cs'=>a23 cs cs'
    | _=>false
  | _,_=>false
def ayo:List AV -> List AV -> Bool
  | [], y=>match y with
    | []=>true
    | _=>false
  | x :: l, y=>match y with
    | x' :: l'=>x'.one && aov x x' && ayo l l'
    | []=>false
def a23:List AV -> List AV -> Bool
  | [], y=>match y with
    | []=>true
    | _=>false
  | x :: l, y=>match y with
    | x' :: l'=>aov x x' && a23 l l'
    | []=>false
def az5:List AV -> List AV -> Bool
  | [], y=>match y with
    | []=>true
    | _=>false
  | x :: l, y=>match y with
    | x' :: l'=>atl x x' && az5 l l'
    | []=>false
def atl:AV -> AV -> Bool
  | .agg cs, y=>match y with
    | .agg cs'=>ayo cs cs'
    | _=>false
  | .v a, y=>match y with
    | .v b=>vEq a b && b.oneCell'
    | .lst _ es=>match es with
      | []=>match a with
        | .slice _ 0 _=>true
        | _=>false
      | _=>false
    | _=>false
  | .lst sz es, y=>match y with
    | .lst sz' es'=>Nat.beq sz sz' && az5 es es'
    | _=>false
  | _,_=>false
end
theorem bko {a:Value} {y:AV} (h:aov (.v a) y = true):Sub (.v a) y:=by
 cases y with
 | v b=>simp only [aov] at h; rw [a10 _ _ h]; exact .refl _
 | lst sz es =>
  cases es with
  | nil =>
   cases a with
   | slice x n c =>
    cases n with
    | zero=>exact .nil _ _ _
    | succ n=>simp [aov] at h
   | _=>simp [aov] at h
  | cons e es=>simp [aov] at h
 | _=>simp [aov] at h
mutual
theorem ay3:∀ (x y:AV), aov x y = true -> Sub x y
 | .v a,y,h=>bko h
 | .lst sz es, y, h=>by
  cases y with
  | lst sz' es' =>
   simp only [aov,and_eq_true] at h
   cases eq_of_beq_eq_true h.1
   exact Sub.lst (alp es es' h.2).1 (alp es es' h.2).2
  | _=>simp [aov] at h
 | .agg cs, y, h=>by
  cases y with
  | agg cs' =>
   simp only [aov] at h
   exact Sub.agg (ao0 cs cs' h).1 (ao0 cs cs' h).2
  | _=>simp [aov] at h
 | .tup cs, y, h=>by
  cases y with
  | tup cs' =>
   simp only [aov] at h
   exact Sub.tup (a0o cs cs' h)
  | _=>simp [aov] at h
 | .iptr _,y,h=>by simp [aov] at h
 | .ms ..,y,h=>by simp [aov] at h
 | .ptr ..,y,h=>by simp [aov] at h
 | .eptr ..,y,h=>by simp [aov] at h
 | .fn ..,y,h=>by simp [aov] at h
 | .opt ..,y,h=>by simp [aov] at h
 | .yl ..,y,h=>by simp [aov] at h
 | .cl ..,y,h=>by simp [aov] at h
theorem ao0:∀ (l l':List AV), ayo l l' = true -> SubL l l' /\ l'.all AV.one = true
 | [],[],h=>⟨.nil,rfl⟩
 | [],_ :: _,h=>by simp [ayo] at h
 | _ :: _,[],h=>by simp [ayo] at h
 | x :: l, x' :: l', h=>by
  simp only [ayo,and_eq_true] at h
  obtain ⟨h1,h2⟩:=ao0 l l' h.2
  exact ⟨.cons (ay3 x x' h.1.2) h1,by simp only [List.all_cons,h.1.1,h2,Bool.and_self]⟩
theorem a0o:∀ (l l':List AV), a23 l l' = true -> SubL l l'
 | [],[],h=>.nil
 | [],_ :: _,h=>by simp [a23] at h
 | _ :: _,[],h=>by simp [a23] at h
 | x :: l, x' :: l', h=>by
  simp only [a23,and_eq_true] at h
  exact .cons (ay3 x x' h.1) (a0o l l' h.2)
theorem alp:∀ (l l':List AV), az5 l l' = true -> l.length = l'.length /\ ∀ (i:Nat) (e e':AV), l[i]? = some e -> l'[i]? = some e' -> aez e e'
 | [],[],h=>⟨rfl,fun i e e' h=>by simp at h⟩
 | [],_ :: _,h=>by simp [az5] at h
 | _ :: _,[],h=>by simp [az5] at h
 | x :: l, x' :: l', h=>by
  simp only [az5,and_eq_true] at h
  obtain ⟨h1,h2⟩:=alp l l' h.2
  refine ⟨by simp [h1],?_⟩
  intro i e e' he he'
  cases i with
  | zero=>simp at he he'; subst he; subst he'; exact bgq x x' h.1
  | succ i=>exact h2 i e e' (by simpa using he) (by simpa using he')
theorem bgq:∀ (x y:AV), atl x y = true -> aez x y
 | .v a, y, h=>by
  have one:∀ {z:AV}, z.cells = [z] -> z.one = true -> Sub (.v a) z -> aez (.v a) z:=by
   intro z h1 h2 h3
   refine ⟨by rw [h1]; rfl,?_⟩
   intro j x y hx hy
   rw [h1] at hy
   cases j with
   | zero=>simp [AV.cells] at hx hy; subst hx; subst hy; exact ⟨h2,h3⟩
   | succ j=>simp at hy
  cases y with
  | v b =>
   simp only [atl,and_eq_true] at h
   exact one rfl h.2 (by rw [a10 _ _ h.1]; exact .refl _)
  | lst sz es =>
   refine one rfl rfl (bko ?_)
   cases es with
   | nil=>unfold atl at h; unfold aov; exact h
   | cons=>simp [atl] at h
  | _=>simp [atl] at h
 | .lst sz es, y, h=>by
  cases y with
  | lst sz' es' =>
   simp only [atl,and_eq_true] at h
   cases eq_of_beq_eq_true h.1
   refine ⟨rfl,?_⟩
   intro j x y hx hy
   cases j with
   | zero =>
    simp [AV.cells] at hx hy; subst hx; subst hy
    exact ⟨rfl,Sub.lst (alp es es' h.2).1 (alp es es' h.2).2⟩
   | succ j=>simp [AV.cells] at hy
  | _=>simp [atl] at h
 | .agg cs, y, h=>by
  cases y with
  | agg cs' =>
   simp only [atl] at h
   obtain ⟨h1,h2⟩:=ao0 cs cs' h
   exact ⟨h1.len,fun j x y hx hy=>⟨List.all_eq_true.1 h2 y (mem_of_getElem? hy),h1.get j x y hx hy⟩⟩
  | _=>simp [atl] at h
 | .tup ..,y,h=>by simp [atl] at h
 | .iptr _,y,h=>by simp [atl] at h
 | .ms ..,y,h=>by simp [atl] at h
 | .ptr ..,y,h=>by simp [atl] at h
 | .eptr ..,y,h=>by simp [atl] at h
 | .fn ..,y,h=>by simp [atl] at h
 | .opt ..,y,h=>by simp [atl] at h
 | .yl ..,y,h=>by simp [atl] at h
 | .cl ..,y,h=>by simp [atl] at h
end
end Go.Lw
namespace Go.Lw
variable {P:Program} {N:Nat}
inductive OR where
  | ok (u:Out)
  | need (k:Nat)
  | no
inductive CR where
  | ok (H:Hp) (r:AV) (H':Hp)
  | need (k:Nat)
  | no
def aze:List AV -> List AV -> Bool
  | [], y=>match y with
    | []=>true
    | _=>false
  | x :: l, y=>match y with
    | x' :: l'=>aov x x' && aze l l'
    | []=>false
theorem a2f:∀ {l l':List AV}, aze l l' = true -> SubL l l'
 | [],[],h=>.nil
 | [],_ :: _,h=>by simp [aze] at h
 | _ :: _,[],h=>by simp [aze] at h
 | x :: l, x' :: l', h=>by
  simp only [aze,and_eq_true] at h
  exact .cons (ay3 x x' h.1) (a2f h.2)
def mx:Nat -> List Nat -> Nat
  | m,[]=>m
  | m, k :: l=>match Nat.blt m k && Nat.blt k 1000 with
    | true=>mx k l
    | false=>mx m l
def bho (s:AS):Nat -> Nat -> Nat
  | 0,k=>k
  | n + 1, k=>match s.freshB k with
    | true=>k
    | false=>bho s n (k + 1)
def nxt (s:AS) (av:List Nat):Nat:=bho s 100 (mx (mx 299 (s.hp.map (·.1))) av + 1)
mutual
theorem AV.pm_id (σ:Nat -> Nat):∀ x:AV, x.nm = [] -> x.pm σ = x
 | .ms k sz off len,h=>by simp [AV.nm] at h
 | .ptr k off,h=>by simp [AV.nm] at h
 | .eptr k sz i off,h=>by simp [AV.nm] at h
 | .yl k,h=>by simp [AV.nm] at h
 | .agg cs,h=>by simp only [AV.pm]; rw [AV.pms_id σ cs (by simpa only [AV.nm] using h)]
 | .tup cs,h=>by simp only [AV.pm]; rw [AV.pms_id σ cs (by simpa only [AV.nm] using h)]
 | .fn f cs,h=>by simp only [AV.pm]; rw [AV.pms_id σ cs (by simpa only [AV.nm] using h)]
 | .opt b x,h=>by simp only [AV.pm]; rw [AV.pm_id σ x (by simpa only [AV.nm] using h)]
 | .v x,h=>rfl
 | .lst sz l,h=>rfl
 | .iptr l,h=>rfl
 | .cl f cs ds,h=>rfl
theorem AV.pms_id (σ:Nat -> Nat):∀ l:List AV, AV.nms l = [] -> AV.pms σ l = l
 | [],h=>rfl
 | x :: l, h=>by
  simp only [AV.nms,List.append_eq_nil_iff] at h
  simp only [AV.pms]; rw [AV.pm_id σ x h.1,AV.pms_id σ l h.2]
end
theorem bh4 {f:FuncId} {xs:List AV} {r:AV} {H':Hp} (h:Con P f xs [] r H') (hx:AV.nms xs = []) (k d:Nat):Con P f xs [] (r.pm (tr k d)) (pmH (tr k d) H'):=by
 have h1:=h.pm (bb5 k d)
 rw [<- AV.pms_eq,AV.pms_id _ xs hx] at h1
 exact h1
abbrev ain:=List Nat -> FuncId -> List AV -> Hp -> Option (AV × Hp)
def ain.Ok (P:Program) (F:ain):Prop:=∀ av f xs H r H',F av f xs H = some (r,H') -> Con P f xs H r H'
def brn (s:AS):List Nat -> Option Nat
  | []=>none
  | k :: ks=>match s.blk k with
    | some (.row _ _)=>some k
    | _=>brn s ks
def bcz (F:ain) (s:AS) (av:List Nat) (f:FuncId) (xs:List AV):CR :=
  match pkH s (a3t s 300 (AV.nms xs) []) with
  | H=>match F (s.hp.map (·.1) ++ av) f xs H with
    | some (r,H')=>.ok H r H'
    | none=>.no
def a92 (E:Env P) (F:ain) (s:AS) (av:List Nat) (f:FuncId) (xs:List AV):CR:=match E.mt f with
  | true=>bcz F s av f xs
  | false=>match brn s (AV.nms xs) with
    | some k=>.need k
    | none=>bcz F s av f xs
def ayj (E:Env P) (F:ain) (s:AS) (av:List Nat) (f:FuncId) (xs:List AV):CR:=match E.orc f with
  | some g=>match AV.nms xs with
    | k :: _=>.need k
    | []=>match g xs with
      | some e=>match Nat.beq e.f f && aze xs e.xs with
        | true=>match e.H' with
          | (k,some z) :: l=>.ok [] (e.r.pm (tr k (nxt s av))) (pmH (tr k (nxt s av)) e.H')
          | _=>.ok [] e.r e.H'
        | false=>a92 E F s av f xs
      | none=>a92 E F s av f xs
  | none=>a92 E F s av f xs
theorem a1o {F:ain} (hF:F.Ok P) {s:AS} {av:List Nat} {f:FuncId} {xs:List AV} {H H':Hp} {r:AV} (h:bcz F s av f xs = .ok H r H'):Con P f xs H r H' /\ ∀ k z, lk H k = some z -> s.blk k = some z:=by
 unfold bcz at h
 simp only at h
 split at h
 ·rename_i h1; cases h; exact ⟨hF _ _ _ _ _ _ h1,fun k z hz=>ave hz⟩
 ·cases h
theorem aul {E:Env P} {F:ain} (hF:F.Ok P) {s:AS} {av:List Nat} {f:FuncId} {xs:List AV} {H H':Hp} {r:AV} (h:a92 E F s av f xs = .ok H r H'):Con P f xs H r H' /\ ∀ k z, lk H k = some z -> s.blk k = some z:=by
 unfold a92 at h
 split at h
 ·exact a1o hF h
 ·split at h
  ·cases h
  ·exact a1o hF h
theorem amg {E:Env P} {F:ain} (hF:F.Ok P) {s:AS} {av:List Nat} {f:FuncId} {xs:List AV} {H H':Hp} {r:AV} (h:ayj E F s av f xs = .ok H r H'):Con P f xs H r H' /\ ∀ k z, lk H k = some z -> s.blk k = some z:=by
 unfold ayj at h
 split at h
 ·split at h
  ·cases h
  ·rename_i hn
   split at h
   ·rename_i e he
    split at h
    ·rename_i hc
     simp only [and_eq_true] at hc
     have hf:=eq_of_beq_eq_true hc.1
     subst hf
     have h9:=Con.subA (a2f hc.2) e.con
     split at h
     ·rename_i k z l _
      obtain ⟨rfl,rfl,rfl⟩:=CR.ok.inj h
      exact ⟨bh4 h9 hn _ _,fun k z hz=>by cases hz⟩
     ·obtain ⟨rfl, rfl, rfl⟩:=CR.ok.inj h
      exact ⟨h9,fun k z hz=>by cases hz⟩
    ·exact aul hF h
   ·exact aul hF h
 ·exact aul hF h
theorem a9y {s:AS} {R:Array Oper} {d q sz cap0:Nat} {a0:Option Addr} {xs:List AV} {x y:Operand} {T E t:TypeId} {ti te:TI} {pos:String} {after:Array Edge}
  (hx:Ev s x (.v (.slice a0 0 0))) (hy:Ev s y (.lst sz xs)) (hT:aai P T = some ti) (hkd:ti.k = .slice E) (hE:aai P E = some te)
  (hsz:te.size = sz) (hz0:(Nat.beq te.zero.length te.size && Nat.blt 0 te.size && Nat.blt 0 te.bytes) = true) (hb:(0 + xs.length) * te.bytes <= 140737488355328) (hdk:Nat.beq d q = false)
  (hN:Nat.blt d N = true) :
  Step P N R s ⟨some d, .call ⟨.builtin .append, #[x, y], #[T, T]⟩, t, pos, after, none⟩
   ⟨some (.ms d sz 0 (0 + xs.length)),[(d,some (.row sz ([] ++ xs))),(q,none)],aam x ++ aam y,[]⟩:=by
 refine ⟨fun s' hag hnew C m a w Q next hC hr hnext=>?_⟩
 have hq:s'.Fresh q:=by
  rcases hnew q (by simp) with h | h
  ·cases h
  ·exact h
 have hd:s'.Fresh d:=by
  rcases hnew d (by simp) with h | h
  ·cases h
  ·exact h
 have hdq:=Nat.ne_of_beq_eq_false hdk
 have hx':=hx.agree hag (fun _ h=>List.mem_append.2 (.inl h))
 have hy':=hy.agree hag (fun _ h=>List.mem_append.2 (.inr h))
 let s2:AS:=⟨s'.sl,(q,some (.row sz [])) :: s'.hp⟩
 have evs:∀ {o:Operand} {z:AV}, Ev s' o z -> Ev s2 o z:=fun h=>by
  cases h with
  | tmp h=>exact .tmp h
  | opt h hb=>exact .opt h hb
  | const c=>exact .const c
  | func f=>exact .func f
 have st:=axn (P:=P) (N:=N) (R:=R) (s:=s2) (d:=d) (k:=q) (t:=t) (pos:=pos) (after:=after) (es:=[]) (evs hx') (fun g S m v h=>Sub.nilMs a0 q sz g S m v h) (by simp [s2,AS.blk,aad]) rfl (evs hy') hT hkd hE hsz hz0 hb hdk hN
 refine st.run s2 ⟨fun _ _=>rfl,fun _ _=>rfl⟩ ?_ C _ a w Q next hC (hr.virt sz hq) (fun m' a' w' hr'=>hnext m' a' w' ?_)
 ·intro k hk
  simp only [map_cons,List.map_nil,mem_cons,not_mem_nil,or_false] at hk
  rcases hk with rfl | rfl
  ·exact .inr (Fresh.row hd hdq (fun h=>h))
  ·exact .inl (by simp)
 ·refine RelM.congr ?_ ?_ hr'
  ·intro t; rfl
  ·intro k
   simp only [AS.app,AS.blk,s2,List.cons_append,nil_append,aad]
   split
   ·rfl
   ·split <;> rfl
mutual
def a0n:AV -> AV -> Bool
  | .v a, y=>match y with
    | .v b=>vEq a b
    | _=>false
  | .lst sz es, y=>match y with
    | .lst sz' es'=>Nat.beq sz sz' && aop es es'
    | _=>false
  | .agg cs, y=>match y with
    | .agg cs'=>aop cs cs'
    | _=>false
  | .tup cs, y=>match y with
    | .tup cs'=>aop cs cs'
    | _=>false
  | .iptr cs, y=>match y with
    | .iptr cs'=>aop cs cs'
    | _=>false
  | .ms k sz off len, y=>match y with
    | .ms k' sz' off' len'=>Nat.beq k k' && (Nat.beq sz sz' && (Nat.beq off off' && Nat.beq len len'))
    | _=>false
  | .ptr k off, y=>match y with
    | .ptr k' off'=>Nat.beq k k' && Nat.beq off off'
    | _=>false
  | .eptr k sz i off, y=>match y with
    | .eptr k' sz' i' off'=>Nat.beq k k' && (Nat.beq sz sz' && (Nat.beq i i' && Nat.beq off off'))
    | _=>false
  | .fn f cs, y=>match y with
    | .fn f' cs'=>Nat.beq f f' && aop cs cs'
    | _=>false
  | .opt _ _,_=>false
  | .yl _,_=>false
  | .cl _ _ _,_=>false
def aop:List AV -> List AV -> Bool
  | [], y=>match y with
    | []=>true
    | _=>false
  | x :: l, y=>match y with
    | x' :: l'=>a0n x x' && aop l l'
    | []=>false
end
mutual
theorem bih:∀ (x y:AV), a0n x y = true -> x = y
 | .v a,y,h=>by cases y <;> simp [a0n] at h; rw [a10 _ _ h]
 | .lst sz es, y, h=>by
  cases y <;> simp only [a0n,and_eq_true,Bool.false_eq_true] at h
  rw [eq_of_beq_eq_true h.1,ag6 _ _ h.2]
 | .agg cs,y,h=>by cases y <;> simp only [a0n,Bool.false_eq_true] at h; rw [ag6 _ _ h]
 | .tup cs,y,h=>by cases y <;> simp only [a0n,Bool.false_eq_true] at h; rw [ag6 _ _ h]
 | .iptr cs,y,h=>by cases y <;> simp only [a0n,Bool.false_eq_true] at h; rw [ag6 _ _ h]
 | .ms k sz off len, y, h=>by
  cases y <;> simp only [a0n,and_eq_true,Bool.false_eq_true] at h
  rw [eq_of_beq_eq_true h.1,eq_of_beq_eq_true h.2.1,eq_of_beq_eq_true h.2.2.1,eq_of_beq_eq_true h.2.2.2]
 | .ptr k off, y, h=>by
  cases y <;> simp only [a0n,and_eq_true,Bool.false_eq_true] at h
  rw [eq_of_beq_eq_true h.1,eq_of_beq_eq_true h.2]
 | .eptr k sz i off, y, h=>by
  cases y <;> simp only [a0n,and_eq_true,Bool.false_eq_true] at h
  rw [eq_of_beq_eq_true h.1,eq_of_beq_eq_true h.2.1,eq_of_beq_eq_true h.2.2.1,eq_of_beq_eq_true h.2.2.2]
 | .fn f cs, y, h=>by
  cases y <;> simp only [a0n,and_eq_true,Bool.false_eq_true] at h
  rw [eq_of_beq_eq_true h.1,ag6 _ _ h.2]
 | .opt ..,y,h=>by simp [a0n] at h
 | .yl ..,y,h=>by simp [a0n] at h
 | .cl ..,y,h=>by simp [a0n] at h
theorem ag6:∀ (l l':List AV), aop l l' = true -> l = l'
 | [],[],h=>rfl
 | [],_ :: _,h=>by simp [aop] at h
 | _ :: _,[],h=>by simp [aop] at h
 | x :: l, x' :: l', h=>by
  simp only [aop,and_eq_true] at h
  rw [bih x x' h.1,ag6 l l' h.2]
end
def bg9:Blk -> Blk -> Bool
  | .box cs,.box cs'=>aop cs cs'
  | .row sz es,.row sz' es'=>Nat.beq sz sz' && aop es es'
  | _,_=>false
theorem bcu {x y:Blk} (h:bg9 x y = true):x = y:=by
 cases x <;> cases y <;> simp only [bg9,Bool.false_eq_true] at h
 ·rw [ag6 _ _ h]
 ·simp only [and_eq_true] at h
  rw [eq_of_beq_eq_true h.1,ag6 _ _ h.2]
theorem aig {k:Nat}:∀ {l:List Nat}, a3m k l = true ↔ k ∈ l
 | []=>by simp [a3m]
 | x :: l=>by
  unfold a3m
  split
  ·rename_i h; simp [eq_of_beq_eq_true h]
  ·rename_i h; rw [aig (l:=l)]; simp [Nat.ne_of_beq_eq_false h]
def chg (H:Hp):List Nat -> Hp -> Hp
  | _,[]=>[]
  | seen, (k, x) :: l=>match a3m k seen with
    | true=>chg H seen l
    | false=>match x with
      | some z=>match lk H k with
        | some y=>match bg9 y z with
          | true=>chg H (k :: seen) l
          | false=>(k,some z) :: chg H (k :: seen) l
        | none=>(k,some z) :: chg H (k :: seen) l
      | none=>(k,none) :: chg H (k :: seen) l
theorem ba3 {H R:Hp} (hR:∀ t y, lk H t = some y -> lk R t = some y):∀ {l:Hp} {seen:List Nat} {t:Nat}, t ∉ seen -> lk (chg H seen l ++ R) t = if t ∈ l.map (·.1) then lk l t else lk R t
 | [],seen,t,h=>by simp [chg]
 | (k, x) :: l, seen, t, h=>by
  have rest:t ≠ k -> lk (chg H (k :: seen) l ++ R) t = if t ∈ ((k, x) :: l).map (·.1) then lk ((k, x) :: l) t else lk R t:=by
   intro hne
   rw [ba3 hR (fun hh=>by rcases List.mem_cons.1 hh with e | e; exact hne e; exact h e)]
   simp only [map_cons,mem_cons,hne,false_or]
   rw [aad,if_neg hne]
  have head:lk ((k, x) :: (chg H (k :: seen) l ++ R)) t = if t ∈ ((k, x) :: l).map (·.1) then lk ((k, x) :: l) t else lk R t:=by
   rw [aad]
   by_cases e:t = k
   ·rw [if_pos e,aad,if_pos e]; simp [e]
   ·rw [if_neg e,rest e]
  unfold chg
  split
  ·rename_i hm
   have hne:t ≠ k:=fun e=>h (by rw [e]; exact aig.1 hm)
   rw [ba3 hR h]
   simp only [map_cons,mem_cons,hne,false_or]
   rw [aad,if_neg hne]
  ·split
   ·rename_i z
    split
    ·rename_i y hy
     split
     ·rename_i he
      by_cases e:t = k
      ·rw [chg_none (by rw [e]; exact mem_cons_self ..), e, hR k y hy, bcu he]
       simp [aad]
      ·exact rest e
     ·exact head
    ·exact head
   ·exact head
where
 chg_none {H R:Hp}:∀ {l:Hp} {seen:List Nat} {t:Nat}, t ∈ seen -> lk (chg H seen l ++ R) t = lk R t
  | [],seen,t,h=>rfl
  | (k, x) :: l, seen, t, h=>by
   unfold chg
   split
   ·exact chg_none h
   ·rename_i hm
    have hne:t ≠ k:=fun e=>by rw [e] at h; rw [aig.2 h] at hm; cases hm
    have ih:=chg_none (H:=H) (R:=R) (l:=l) (mem_cons_of_mem k h)
    split
    ·split
     ·split
      ·exact ih
      ·show lk (_ :: (_ ++ R)) t = _
       rw [aad,if_neg hne]; exact ih
     ·show lk (_ :: (_ ++ R)) t = _
      rw [aad,if_neg hne]; exact ih
    ·show lk (_ :: (_ ++ R)) t = _
     rw [aad,if_neg hne]; exact ih
theorem as7 {H:Hp}:∀ {l:Hp} {seen:List Nat} {k:Nat}, k ∈ l.map (·.1) -> k ∉ seen -> k ∈ (chg H seen l).map (·.1) \/ ∃ y, lk H k = some y
 | [],seen,k,h,_=>by simp at h
 | (k', x) :: l, seen, k, h, hs=>by
  unfold chg
  by_cases e:k = k'
  ·subst e
   have hm:a3m k seen = false:=by
    cases hq:a3m k seen with
    | true=>exact absurd (aig.1 hq) hs
    | false=>rfl
   simp only [hm]
   split
   ·split
    ·rename_i y hy
     split
     ·exact .inr ⟨y,hy⟩
     ·exact .inl (by simp)
    ·exact .inl (by simp)
   ·exact .inl (by simp)
  ·have h' : k ∈ l.map (·.1) := by simpa [e] using h
   have hs':k ∉ k' :: seen:=fun hh=>by rcases List.mem_cons.1 hh with e' | e'; exact e e'; exact hs e'
   have ih1:=as7 (H:=H) h' hs
   have ih2:=as7 (H:=H) h' hs'
   split
   ·exact ih1
   ·split
    ·split
     ·split
      ·exact ih2
      ·rcases ih2 with h | h
       ·exact .inl (mem_cons_of_mem _ h)
       ·exact .inr h
     ·rcases ih2 with h | h
      ·exact .inl (mem_cons_of_mem _ h)
      ·exact .inr h
    ·rcases ih2 with h | h
     ·exact .inl (mem_cons_of_mem _ h)
     ·exact .inr h
theorem ajl {R:Array Oper} {s:AS} {o:Oper} {x:Option AV} {H U:Hp} {rt:List Nat} (hH:∀ k z, lk H k = some z -> s.blk k = some z) (h:Step P N R s o ⟨x, U, rt, H.map (·.1)⟩) :
  Step P N R s o ⟨x,chg H [] U,rt,H.map (·.1)⟩:=by
 refine ⟨fun s' hag hnew C m a w Q next hC hr hnext=>?_⟩
 have hH':∀ k z,lk H k = some z -> lk s'.hp k = some z:=fun k z hz=>(hag.2 k (aa7 hz)).trans (hH k z hz)
 refine h.run s' hag (fun k hk=>?_) C m a w Q next hC hr (fun m' a' w' hr'=>hnext m' a' w' ?_)
 ·rcases as7 (H := H) hk (seen := []) (by simp) with h1 | ⟨y, hy⟩
  ·exact hnew k h1
  ·exact .inl (aa7 hy)
 ·refine RelM.congr (s:=s'.app o.dst ⟨x, U, rt, H.map (·.1)⟩) (fun t=>rfl) (fun k=>?_) hr'
  simp only [AS.blk,AS.app]
  rw [ba3 hH' (by simp),ac6]
variable [Inhabited (Tys P)]
def bqk (P:Program) [Inhabited (Tys P)] (s:AS) (d:Nat) (x y:Operand) (T:TypeId):OR:=match rdC s y with
  | some (.lst sz xs)=>match aim P T with
    | some ti=>match ti.k with
      | .slice E=>match aim P E with
        | some te=>match Nat.beq te.size sz && (Nat.beq te.zero.length te.size && Nat.blt 0 te.size && Nat.blt 0 te.bytes) with
          | true=>match rdC s x with
            | some (.ms k sz' off len)=>match s.blk k with
              | some (.row sz2 es)=>match Nat.beq sz' sz && Nat.beq off 0 && Nat.beq sz2 sz && Nat.beq len es.length && Nat.ble ((len + xs.length) * te.bytes) 140737488355328 with
                | true=>match Nat.beq d k with
                  | true=>.no
                  | false=>match frc (es ++ xs) with
                    | some l=>wN (len + xs.length) fun n=>.ok ⟨some (.ms d sz 0 n),[(d,some (.row sz l)),(k,none)],aam x ++ aam y,[k]⟩
                    | none=>.no
                | false=>.no
              | _=>.no
            | some (.v (.slice a0 0 0))=>match Nat.ble ((0 + xs.length) * te.bytes) 140737488355328 with
              | true=>match Nat.beq d 299 with
                | true=>.no
                | false=>match frc ([] ++ xs) with
                  | some l=>wN (0 + xs.length) fun n=>.ok ⟨some (.ms d sz 0 n),[(d,some (.row sz l)),(299,none)],aam x ++ aam y,[]⟩
                  | none=>.no
              | false=>.no
            | _=>.no
          | false=>.no
        | none=>.no
      | _=>.no
    | none=>.no
  | some (.ms k _ _ _)=>.need k
  | _=>.no
theorem bgm {s:AS} {R:Array Oper} {d:Nat} {x y:Operand} {T t:TypeId} {u:Out} {pos:String} {after:Array Edge} (h:bqk P s d x y T = .ok u) (hN:Nat.blt d N = true) :
  Step P N R s ⟨some d,.call ⟨.builtin .append,#[x,y],#[T,T]⟩,t,pos,after,none⟩ u:=by
 unfold bqk at h
 split at h
 ·rename_i sz xs hy
  split at h
  ·rename_i ti hT
   split at h
   ·rename_i E hk
    split at h
    ·rename_i te hE
     split at h
     ·rename_i hc
      simp only [and_eq_true] at hc
      have hsz:=eq_of_beq_eq_true hc.1
      have hz0:(Nat.beq te.zero.length te.size && Nat.blt 0 te.size && Nat.blt 0 te.bytes) = true:=by simp only [and_eq_true]; exact hc.2
      split at h
      ·rename_i k sz' off len hx
       split at h
       ·rename_i sz2 es hb
        split at h
        ·rename_i hg
         simp only [and_eq_true,Nat.ble_eq] at hg
         obtain ⟨⟨⟨⟨g1,g2⟩,g3⟩,g4⟩,g5⟩:=hg
         cases eq_of_beq_eq_true g1
         cases eq_of_beq_eq_true g2
         cases eq_of_beq_eq_true g3
         split at h
         ·cases h
         ·rename_i hdk
          split at h
          ·rename_i l hl
           cases ag4 hl
           rw [au6] at h; cases h
           exact abj (abc hx) hb (eq_of_beq_eq_true g4) (abc hy) (aaw hT) hk (aaw hE) hsz hz0 g5 hdk hN
          ·cases h
        ·cases h
       ·cases h
      ·rename_i a0 hx
       split at h
       ·rename_i g5
        rw [Nat.ble_eq] at g5
        split at h
        ·cases h
        ·rename_i hdk
         split at h
         ·rename_i l hl
          cases ag4 hl
          rw [au6] at h; cases h
          exact a9y (cap0:=0) (abc hx) (abc hy) (aaw hT) hk (aaw hE) hsz hz0 g5 hdk hN
         ·cases h
       ·cases h
      ·cases h
     ·cases h
    ·cases h
   ·cases h
  ·cases h
 ·cases h
 ·cases h
def bqz (P:Program) [Inhabited (Tys P)] (s:AS) (T:TypeId) (x y:Operand):OR:=match rdC s x with
  | some (.eptr k sz i off)=>match rdC s y with
    | some v=>match v.nm with
      | k' :: _=>.need k'
      | []=>match s.blk k with
        | some (.row sz' es)=>match es[i]? with
          | some e=>match aim P T with
            | some ti=>match Nat.beq sz sz' && v.ok && Nat.beq v.cells.length ti.size && Nat.ble (off + ti.size) e.cells.length with
              | true=>match e with
                | .agg cs=>match frc (over cs off v.cells) with
                  | some l=>match frc (es.set i (.agg l)) with
                    | some es'=>.ok ⟨none,[(k,some (.row sz es'))],aam x ++ aam y,[k]⟩
                    | none=>.no
                  | none=>.no
                | e=>match Nat.beq off 0 && Nat.beq v.cells.length 1 with
                  | true=>match frc (es.set i v) with
                    | some es'=>.ok ⟨none,[(k,some (.row sz es'))],aam x ++ aam y,[k]⟩
                    | none=>.no
                  | false=>.no
              | false=>.no
            | none=>.no
          | none=>.no
        | _=>.no
    | none=>.no
  | _=>.no
theorem a4l {e:AV} (h:∀ cs, e ≠ .agg cs):e.cells = [e]:=by
 cases e <;> first | rfl | exact absurd rfl (h _)
theorem bgo {s:AS} {R:Array Oper} {x y:Operand} {T t:TypeId} {u:Out} {pos:String} {after:Array Edge} (h:bqz P s T x y = .ok u) :
  Step P N R s ⟨none,.store T x y,t,pos,after,none⟩ u:=by
 unfold bqz at h
 split at h
 ·rename_i k sz i off hx
  split at h
  ·rename_i v hy
   split at h
   ·cases h
   ·rename_i hnm
    split at h
    ·rename_i sz' es hb
     split at h
     ·rename_i e he
      split at h
      ·rename_i ti hT
       split at h
       ·rename_i hc
        simp only [and_eq_true] at hc
        obtain ⟨⟨⟨c1,c2⟩,c3⟩,c4⟩:=hc
        cases eq_of_beq_eq_true c1
        split at h
        ·rename_i cs
         split at h
         ·rename_i l hl
          split at h
          ·rename_i es' hes
           cases h
           cases ag4 hl
           cases ag4 hes
           exact aui (abc hx) hb he (abc hy) c2 hnm (aaw hT) c3 c4 rfl
          ·cases h
         ·cases h
        ·rename_i hne
         split at h
         ·rename_i hg
          simp only [and_eq_true] at hg
          split at h
          ·rename_i es' hes
           cases h
           cases ag4 hes
           cases eq_of_beq_eq_true hg.1
           refine aui (abc hx) hb he (abc hy) c2 hnm (aaw hT) c3 c4 ?_
           rw [a4l hne]
           have:=eq_of_beq_eq_true hg.2
           simp [over,this]
          ·cases h
         ·cases h
       ·cases h
      ·cases h
     ·cases h
    ·cases h
  ·cases h
 ·cases h
def mkS (P:Program) [Inhabited (Tys P)] (d:Nat) (T:TypeId) (n:Int) (rt:List Nat):OR:=match aim P T with
  | some ti=>match ti.k with
    | .slice E=>match aim P E with
      | some te=>match te.zero.all Value.oneCell' && (Nat.beq te.zero.length te.size && Nat.blt 0 te.size && Nat.blt 0 te.bytes && (te.ag || Nat.beq te.size 1)) with
        | true=>match n with
          | .ofNat n=>match Nat.ble (n * te.bytes) 281474976710656 with
            | true=>match frc (List.replicate n (mkT te.ag (te.zero.map .v))) with
              | some l=>.ok ⟨some (.ms d te.size 0 n),[(d,some (.row te.size l))],rt,[]⟩
              | none=>.no
            | false=>.no
          | .negSucc _=>.no
        | false=>.no
      | none=>.no
    | _=>.no
  | none=>.no
theorem bm4 {s:AS} {R:Array Oper} {d:Nat} {x:Operand} {T t:TypeId} {n:Int} {u:Out} {pos:String} {after:Array Edge} (hx:Ev s x (.v (.int .i64 n))) (h:mkS P d T n (aam x) = .ok u) (hN:Nat.blt d N = true) :
  Step P N R s ⟨some d,.makeSlice T x x,t,pos,after,none⟩ u:=by
 unfold mkS at h
 split at h
 ·rename_i ti hT
  split at h
  ·rename_i E hk
   split at h
   ·rename_i te hE
    split at h
    ·rename_i hc
     rw [and_eq_true] at hc
     split at h
     ·rename_i n
      split at h
      ·rename_i hb
       rw [Nat.ble_eq] at hb
       split at h
       ·rename_i l hl
        cases h
        cases ag4 hl
        exact agy (n:=Int.ofNat n) hx (aaw hT) hk (aaw hE) hc.1 hc.2 (Int.natCast_nonneg _) (by simp only [Int.ofNat_eq_natCast]; omega) hN
       ·cases h
      ·cases h
     ·cases h
    ·cases h
   ·cases h
  ·cases h
 ·cases h
theorem bjd {P:Program} {N:Nat} {s:AS} {R:Array Oper} {d f:Nat} {g:Operand} {args:Array Operand} {ts:Array TypeId} {xs:List AV} {H H':Hp} {r:AV} {t:TypeId} {pos:String} {after:Array Edge}
  (hg:Ev s g (.v (.func (.func f) #[] #[]))) (hcon:Con P f xs H r H') (ha:EvL s args.toList xs) (hH:∀ k z,lk H k = some z -> s.blk k = some z) (hok:acv s H H' r = true) (hN:Nat.blt d N = true) :
  Step P N R s ⟨some d,.call ⟨.value g,args,ts⟩,t,pos,after,none⟩ ⟨some r,H' ++ ajj H,aam g ++ rtL args.toList,H.map (·.1)⟩ :=
 ajn rfl (fun d' h => by cases h; exact ⟨hN, rfl⟩) hcon hH hok fun s' hag C m a w hr => by
  have hag':ac2 s s' ⟨none,[],aam g ++ rtL args.toList,[]⟩:=⟨hag,fun k hk=>by cases hk⟩
  have ha':=ha.agree hag' (fun _ h=>List.mem_append.2 (.inr h))
  have hgr:=(hg.agree hag' (fun _ h=>List.mem_append.2 (.inl h))).rep hr
  generalize hv:a.eval g = u at hgr
  cases hgr
  refine ⟨args.map a.eval,asz (caps:=#[]) rfl hv hcon.ok (by simp),?_,?_⟩
  ·have:=ha'.length; simpa using this
  ·intro j v x hv hx; exact ha'.rep hr j v x (by simpa using hv) hx
def bhz:Operand -> Operand -> Bool
  | .tmp a,.tmp b=>Nat.beq a b
  | .const (.int k a),.const (.int k' b)=>Nat.beq (ikn k) (ikn k') && aab .eql a b
  | _,_=>false
theorem bbw {x y:Operand} (h:bhz x y = true):y = x:=by
 unfold bhz at h
 split at h
 ·rw [eq_of_beq_eq_true h]
 ·rename_i k a k' b
  simp only [and_eq_true] at h
  rw [aib h.1,eq_of_beq (show (a == b) = true from h.2)]
 ·cases h
def opD (E:Env P) (F:ain) (av:List Nat) (s:AS) (d:Nat) (op:Op):OR:=match op with
  | .call c=>match c with
    | ⟨.value g, args, ts⟩=>match bj5 s args.toList with
      | some xs=>match g with
        | .func f=>match ayj E F s av f xs with
          | .ok H r H'=>match acv s H H' r with
            | true=>.ok ⟨some r,chg H [] (H' ++ ajj H),rtL args.toList,H.map (·.1)⟩
            | false=>.no
          | .need k=>.need k
          | .no=>.no
        | g=>match rdC s g with
          | some (.fn f caps)=>match ayj E F s av f (xs ++ caps) with
            | .ok H r H'=>match acv s H H' r with
              | true=>.ok ⟨some r,chg H [] (H' ++ ajj H),aam g ++ rtL args.toList,H.map (·.1)⟩
              | false=>.no
            | .need k=>.need k
            | .no=>.no
          | some (.v (.func (.func f) ⟨[]⟩ ⟨[]⟩))=>match ayj E F s av f xs with
            | .ok H r H'=>match acv s H H' r with
              | true=>.ok ⟨some r,chg H [] (H' ++ ajj H),aam g ++ rtL args.toList,H.map (·.1)⟩
              | false=>.no
            | .need k=>.need k
            | .no=>.no
          | some (.cl f pre caps)=>match ayj E F s av f (pre ++ xs ++ caps) with
            | .ok H r H'=>match acv s H H' r with
              | true=>.ok ⟨some r,chg H [] (H' ++ ajj H),aam g ++ rtL args.toList,H.map (·.1)⟩
              | false=>.no
            | .need k=>.need k
            | .no=>.no
          | _=>.no
      | none=>.no
    | ⟨.builtin .append, args, ts⟩=>match args.toList with
      | [x, y]=>match ts.toList with
        | [T, T']=>match Nat.beq T T' with
          | true=>bqk P s d x y T
          | false=>.no
        | _=>.no
      | _=>.no
    | c=>match opV P s (.call c) with
      | some r=>.ok ⟨some r.x,[],r.rt,r.rd⟩
      | none=>.no
  | .makeSlice T x y=>match bhz x y with
    | true=>match rdC s x with
      | some (.v (.int .i64 n))=>mkS P d T n (aam x)
      | _=>.no
    | false=>.no
  | .slice T x none (some (.const (.int k1 (.ofNat 0)))) (some (.const (.int k2 (.ofNat 0))))=>match rdC s x with
    | some (.lst sz es)=>match bhc P T sz with
      | true=>.ok ⟨some (.ms d sz 0 0),[(d,some (.row sz []))],aam x,[]⟩
      | false=>.no
    | _=>.no
  | .buildSlice T n parts=>match n with
    | 0=>match parts.toList with
      | []=>match aim P T with
        | some ti=>match ti.k with
          | .slice E=>match aim P E with
            | some te=>match te.zero.all Value.oneCell' && Nat.beq te.zero.length te.size with
              | true=>.ok ⟨some (.ms d te.size 0 0),[(d,some (.row te.size []))],[],[]⟩
              | false=>.no
            | none=>.no
          | _=>.no
        | none=>.no
      | _=>.no
    | n + 1=>match opV P s (.buildSlice T (n + 1) parts) with
      | some r=>.ok ⟨some r.x,[],r.rt,r.rd⟩
      | none=>match bj5 s (parts.toList.map (·.2)) with
        | some xs=>match AV.nms xs with
          | k :: _=>.need k
          | []=>.no
        | none=>.no
  | op=>match opV P s op with
    | some r=>.ok ⟨some r.x,[],r.rt,r.rd⟩
    | none=>match bo3 P s d op with
      | some r=>match r.2 with
        | []=>.ok r.1
        | _=>.no
      | none=>.no
theorem bfw {E:Env P} {F:ain} (hF:F.Ok P) {av:List Nat} {s:AS} {R:Array Oper} {d:Nat} {op:Op} {u:Out} {t:TypeId} {pos:String} {after:Array Edge} (h:opD E F av s d op = .ok u) (hN:Nat.blt d N = true) :
  Step P N R s ⟨some d,op,t,pos,after,none⟩ u:=by
 unfold opD at h
 split at h
 ·split at h
  ·rename_i g args ts
   split at h
   ·rename_i xs hxs
    split at h
    ·rename_i f
     split at h
     ·rename_i H r H' hc
      split at h
      ·rename_i hok
       cases h
       obtain ⟨h1,h2⟩:=amg hF hc
       exact ajl h2 (aae h1 (anh hxs) h2 hok hN)
      ·cases h
     ·cases h
     ·cases h
    ·split at h
     ·rename_i f caps hg
      split at h
      ·rename_i H r H' hc
       split at h
       ·rename_i hok
        cases h
        obtain ⟨h1,h2⟩:=amg hF hc
        exact ajl h2 (aqr (abc hg) h1 (anh hxs) h2 hok hN)
       ·cases h
      ·cases h
      ·cases h
     ·rename_i f hg
      split at h
      ·rename_i H r H' hc
       split at h
       ·rename_i hok
        cases h
        obtain ⟨h1,h2⟩:=amg hF hc
        exact ajl h2 (bjd (abc hg) h1 (anh hxs) h2 hok hN)
       ·cases h
      ·cases h
      ·cases h
     ·rename_i f pre caps hg
      split at h
      ·rename_i H r H' hc
       split at h
       ·rename_i hok
        cases h
        obtain ⟨h1,h2⟩:=amg hF hc
        exact ajl h2 (a7x (abc hg) h1 (anh hxs) h2 hok hN)
       ·cases h
      ·cases h
      ·cases h
     ·cases h
   ·cases h
  ·rename_i args ts
   split at h
   ·rename_i x y hx
    split at h
    ·rename_i T T' hT
     split at h
     ·rename_i hTT
      cases eq_of_beq_eq_true hTT
      have e1:args = #[x,y]:=by apply Array.toList_inj.1; simpa using hx
      have e2:ts = #[T,T]:=by apply Array.toList_inj.1; simpa using hT
      subst e1; subst e2
      exact bgm h hN
     ·cases h
    ·cases h
   ·cases h
  ·split at h
   ·rename_i h1; cases h; exact a5x h1 hN
   ·cases h
 ·split at h
  ·rename_i he
   cases bbw he
   split at h
   ·rename_i hx; exact bm4 (abc hx) h hN
   ·cases h
  ·cases h
 ·split at h
  ·rename_i hx
   split at h
   ·rename_i hs
    obtain ⟨ti,E,te,h1,h2,h3,h4⟩:=aq5 hs
    cases h
    exact bap (abc hx) h1 h2 h3 h4 hN
   ·cases h
  ·cases h
 ·rename_i T n parts
  split at h
  ·split at h
   ·rename_i hp
    have:parts = #[]:=by apply Array.toList_inj.1; simpa using hp
    subst this
    split at h
    ·rename_i ti hT
     split at h
     ·rename_i E hk
      split at h
      ·rename_i te hE
       split at h
       ·rename_i hc
        rw [and_eq_true] at hc
        cases h
        exact act (aaw hT) hk (aaw hE) hc.1 hc.2 hN
       ·cases h
      ·cases h
     ·cases h
    ·cases h
   ·cases h
  ·split at h
   ·rename_i h1; cases h; exact a5x h1 hN
   ·split at h
    ·split at h <;> cases h
    ·cases h
 ·split at h
  ·rename_i h1; cases h; exact a5x h1 hN
  ·split at h
   ·rename_i h1
    split at h
    ·rename_i ho; cases h; exact ba5 h1 (by rw [ho]; exact .nil) hN
    ·cases h
   ·cases h
def opN (E:Env P) (F:ain) (av:List Nat) (s:AS) (op:Op):OR:=match op with
  | .call c=>match c with
    | ⟨.value (.func f), args, ts⟩=>match bj5 s args.toList with
      | some xs=>match ayj E F s av f xs with
        | .ok H r H'=>match acv s H H' r with
          | true=>.ok ⟨none,chg H [] (H' ++ ajj H),rtL args.toList,H.map (·.1)⟩
          | false=>.no
        | .need k=>.need k
        | .no=>.no
      | none=>.no
    | _=>.no
  | .store T x y=>match bo5 P s (.store T x y) with
    | some r=>match r.2 with
      | []=>.ok r.1
      | _=>.no
    | none=>bqz P s T x y
  | _=>.no
theorem bln {E:Env P} {F:ain} (hF:F.Ok P) {av:List Nat} {s:AS} {R:Array Oper} {op:Op} {u:Out} {t:TypeId} {pos:String} {after:Array Edge} (h:opN E F av s op = .ok u) :
  Step P N R s ⟨none,op,t,pos,after,none⟩ u:=by
 unfold opN at h
 split at h
 ·split at h
  ·rename_i f args ts
   split at h
   ·rename_i xs hxs
    split at h
    ·rename_i H r H' hc
     split at h
     ·rename_i hok
      cases h
      obtain ⟨h1,h2⟩:=amg hF hc
      exact ajl h2 (bbl h1 (anh hxs) h2 hok)
     ·cases h
    ·cases h
    ·cases h
   ·cases h
  ·cases h
 ·split at h
  ·rename_i h1
   split at h
   ·rename_i ho; cases h; exact a9j h1 (by rw [ho]; exact .nil)
   ·cases h
  ·exact bgo h
 ·cases h
theorem Step.sub {P:Program} {N:Nat} {R:Array Oper} {s:AS} {o:Oper} {x y:AV} {upd:Hp} {rt rd:List Nat} (h:Step P N R s o ⟨some x, upd, rt, rd⟩) (hs:Sub x y):Step P N R s o ⟨some y, upd, rt, rd⟩:=by
 refine ⟨fun s' hag hnew C m a w Q next hC hr hnext=>h.run s' hag hnew C m a w Q next hC hr (fun m' a' w' hr'=>hnext m' a' w' ?_)⟩
 refine hr'.weak (fun t z hz=>?_) (fun k z hz=>⟨z,hz,.refl _⟩)
 rw [ac8] at hz
 split at hz
 ·rename_i ht; cases hz; exact ⟨x,by rw [ac8,if_pos ht],hs⟩
 ·rename_i ht; exact ⟨z,by rw [ac8,if_neg ht]; exact hz,.refl _⟩
theorem Sub.opt_true (x:AV):Sub (.opt true x) x:=fun g S m v h=>by cases h with | opt h _=>exact h rfl
theorem anq (f:AV -> AV) (k:Nat):∀ l:Hp, (ag1 f k l).map (·.1) = l.map (·.1)
 | []=>rfl
 | (k',x) :: l=>by simp only [ag1,map_cons,anq f k l]
theorem a55 {P:Program} {N:Nat} {R:Array Oper} {s:AS} {o:Oper} {d:Nat} {x:AV} {upd:Hp} {rt rd:List Nat} {k sz:Nat} {es:List AV} (hd:o.dst = some d) (hk:lk upd k = some (.row sz es)) (hrd:k ∉ rd)
  (h:Step P N R s o ⟨some x,upd,rt,rd⟩):Step P N R s o ⟨some (x.fz k sz es),ag1 (AV.fz k sz es) k upd,rt,rd⟩:=by
 refine ⟨fun s' hag hnew C m a w Q next hC hr hnext=>?_⟩
 have hnew':amh s' ⟨some x,upd,rt,rd⟩:=fun k' hk'=>hnew k' (by rw [anq]; exact hk')
 have hfr:s'.Fresh k:=by
  rcases hnew' k (aa7 hk) with h | h
  ·exact absurd h hrd
  ·exact h
 refine h.run s' hag hnew' C m a w Q next hC hr (fun m' a' w' hr'=>?_)
 rw [hd] at hr'
 have hkk:(s'.app (some d) ⟨some x, upd, rt, rd⟩).blk k = some (.row sz es):=by
  show lk (upd ++ s'.hp) k = _
  rw [ac6,if_pos (aa7 hk),hk]
 obtain ⟨m2,hr2⟩:=Wk.freeze hkk C m' a' w' hr'
 refine hnext m2 a' w' ?_
 rw [hd]
 refine hr2.congr ?_ ?_
 ·intro t
  simp only [AS.get,air,AS.app,aad]
  split
  ·rfl
  ·cases hx:lk s'.sl t with
   | none=>rfl
   | some y=>simp only [Option.map_some]; rw [AV.fz_id _ _ _ _ (hfr.2.2.1 t y hx)]
 ·intro k'
  simp only [AS.blk,AS.app]
  rw [afi,ac6,ac6,anq,afi]
  by_cases h1:k' = k
  ·subst h1
   rw [if_pos rfl,if_pos (aa7 hk),if_pos rfl]
  ·rw [if_neg h1, if_neg h1]
   split
   ·rfl
   ·cases hx:lk s'.hp k' with
    | none=>rfl
    | some y=>simp only [Option.map_some]; rw [asc (hfr.2.2.2 k' y hx)]
def bhe:List Nat -> Out -> Out
  | [],u=>u
  | k :: ks, u=>match u.val with
    | some x=>match lk u.upd k with
      | some (.row sz es)=>match a3m k u.rd with
        | false=>bhe ks ⟨some (x.fz k sz es),ag1 (AV.fz k sz es) k u.upd,u.rt,u.rd⟩
        | true=>bhe ks u
      | _=>bhe ks u
    | none=>u
theorem arg {P:Program} {N:Nat} {R:Array Oper} {s:AS} {o:Oper} {d:Nat} (hd:o.dst = some d):∀ {ks:List Nat} {u:Out}, Step P N R s o u -> Step P N R s o (bhe ks u)
 | [],u,h=>h
 | k :: ks, u, h=>by
  unfold bhe
  split
  ·rename_i x hx
   split
   ·rename_i sz es hk
    split
    ·rename_i hm
     refine arg hd ?_
     obtain ⟨val,upd,rt,rd⟩:=u
     simp only at hx hk hm
     subst hx
     exact a55 hd hk (fun hh=>by rw [aig.2 hh] at hm; cases hm) h
    ·exact arg hd h
   ·exact arg hd h
  ·exact h
def opE (E:Env P) (F:ain) (av fz:List Nat) (N:Nat) (R:List Oper) (s:AS) (o:Oper):OR:=match o.guard with
  | none=>match o.dst with
    | some d=>match Nat.blt d N with
      | true=>match opD E F av s d o.op with
        | .ok u=>.ok (bhe fz u)
        | r=>r
      | false=>.no
    | none=>opN E F av s o.op
  | some (j, want)=>match R[j]? with
    | some og=>match og.dst with
      | some g=>match o.dst with
        | some d=>match Nat.blt d N with
          | true=>match s.get g with
            | some (.v (.bool b))=>match b == want with
              | true=>match opD E F av s d o.op with
                | .ok u=>match (bhe fz u) with
                  | ⟨some x,upd,rt,rd⟩=>.ok ⟨some x,upd,g :: rt,rd⟩
                  | ⟨none,_,_,_⟩=>.no
                | r=>r
              | false=>.ok ⟨some (.opt false (.v (.bool false))),[],[g],[]⟩
            | some (.opt false (.v (.bool b)))=>.ok ⟨some (.opt false (.v (.bool false))),[],[g],[]⟩
            | _=>.no
          | false=>.no
        | none=>.no
      | none=>.no
    | none=>.no
theorem bmv {E:Env P} {F:ain} (hF:F.Ok P) {av fz:List Nat} {R:List Oper} {s:AS} {o:Oper} {u:Out} (h:opE E F av fz N R s o = .ok u):Step P N R.toArray s o u:=by
 obtain ⟨dst,op,ty,pos,after,guard⟩:=o
 unfold opE at h
 simp only at h
 split at h
 ·split at h
  ·split at h
   ·rename_i hN
    split at h
    ·rename_i u' h1; cases h; exact arg rfl (bfw hF h1 hN)
    ·rename_i hno; exact absurd h (hno u)
   ·cases h
  ·exact bln hF h
 ·rename_i j want
  split at h
  ·rename_i og hog
   split at h
   ·rename_i g hg
    split at h
    ·rename_i d
     split at h
     ·rename_i hN
      have hj:(R.toArray[j]?).bind (·.dst) = some g:=by simp [hog,hg]
      split at h
      ·rename_i b hb
       split at h
       ·rename_i hw
        split at h
        ·rename_i u' h1
         have hs:=arg (ks:=fz) rfl (bfw (R:=R.toArray) (t:=ty) (pos:=pos) (after:=after) hF h1 hN)
         split at h
         ·rename_i x upd rt rd hx
          cases h
          rw [hx] at hs
          have h2:=a0t (want:=want) hj hb hN (fun hne=>absurd (eq_of_beq hw) hne) (fun _=>hs)
          rw [hw] at h2
          exact h2.sub (.opt_true x)
         ·cases h
        ·rename_i hno; exact absurd h (hno u)
       ·rename_i hw
        cases h
        have h2:=abx (P:=P) (op:=op) (t:=ty) (pos:=pos) (after:=after) (want:=want) (x:=.v (.bool false)) (rt:=[]) (rd:=[]) hj hb hN (fun e=>by rw [e] at hw; simp at hw)
        rw [hw] at h2
        exact h2
      ·rename_i b hb
       cases h
       exact agb (P:=P) (op:=op) (t:=ty) (pos:=pos) (after:=after) (want:=want) (x:=.v (.bool false)) (rt:=[]) (rd:=[]) hj hb hN (fun e=>by cases e)
      ·cases h
     ·cases h
    ·cases h
   ·cases h
  ·cases h
end Go.Lw
namespace Go.Lw
variable {P:Program} {N:Nat} [Inhabited (Tys P)]
theorem a9g {P:Program} {N:Nat} {c:Code} {Q Q':Exit -> AS -> Prop} {s:AS} (h:AWP P N c Q s) (hq:∀ e s, Q e s -> ∃ s', Wk s s' /\ Q' e s'):AWP P N c Q' s :=
 fun C m a w n hN hr=>wpIn_mono (h C m a w n hN hr) fun e _ _ ⟨s', m', hQ, hr'⟩=>by
  obtain ⟨s2,hw,hQ'⟩:=hq e s' hQ
  obtain ⟨m2,hr2⟩:=hw C m' _ _ hr'
  exact ⟨s2,m2,hQ',hr2⟩
def dd {α:Type}:List Nat -> List (Nat × Option α) -> List (Nat × Option α)
  | _,[]=>[]
  | seen, (t, x) :: l=>match a3m t seen with
    | true=>dd seen l
    | false=>match x with
      | some v=>(t,some v) :: dd (t :: seen) l
      | none=>dd (t :: seen) l
theorem a72 {α:Type}:∀ {l:List (Nat × Option α)} {seen:List Nat} {t:Nat} {x:α}, lk (dd seen l) t = some x -> t ∉ seen /\ lk l t = some x
 | [],seen,t,x,h=>by cases h
 | (t', y) :: l, seen, t, x, h=>by
  unfold dd at h
  rw [aad]
  split at h
  ·rename_i hm
   obtain ⟨h1,h2⟩:=a72 h
   refine ⟨h1,?_⟩
   rw [if_neg (fun (e:t = t')=>h1 (by rw [e]; exact aig.1 hm))]; exact h2
  ·rename_i hm
   have hm':t' ∉ seen:=fun hh=>by rw [aig.2 hh] at hm; cases hm
   split at h
   ·rw [aad] at h
    split at h
    ·rename_i e; cases h; subst e; exact ⟨hm',by rw [if_pos rfl]⟩
    ·rename_i e
     obtain ⟨h1,h2⟩:=a72 h
     rw [if_neg e]
     exact ⟨fun hh=>h1 (mem_cons_of_mem _ hh),h2⟩
   ·obtain ⟨h1, h2⟩:=a72 h
    have hne:t ≠ t':=fun e=>h1 (by rw [e]; exact mem_cons_self ..)
    rw [if_neg hne]
    exact ⟨fun hh=>h1 (mem_cons_of_mem _ hh),h2⟩
theorem a0c {s:AS} {sl:abr} {hp:Hp} (h1:∀ t x, lk sl t = some x -> lk s.sl t = some x) (h2:∀ k x, lk hp k = some x -> lk s.hp k = some x):Wk s ⟨sl, hp⟩ :=
 fun C m a w hr=>⟨m,hr.weak (fun t x hx=>⟨x,h1 t x hx,.refl _⟩) (fun k x hx=>⟨x,h2 k x hx,.refl _⟩)⟩
def ddS (s:AS):AS:=⟨dd [] s.sl,dd [] s.hp⟩
theorem bqh (s:AS):Wk s (ddS s):=a0c (fun t x h=>(a72 h).2) (fun t x h=>(a72 h).2)
def noK (k:Nat):List Nat -> abr -> abr
  | _,[]=>[]
  | seen, (t, x) :: l=>match a3m t seen with
    | true=>noK k seen l
    | false=>match x with
      | some v=>match a3m k v.nm with
        | true=>noK k (t :: seen) l
        | false=>(t,some v) :: noK k (t :: seen) l
      | none=>noK k (t :: seen) l
theorem a1q {k:Nat}:∀ {l:abr} {seen:List Nat} {t:Nat} {x:AV}, lk (noK k seen l) t = some x -> t ∉ seen /\ lk l t = some x
 | [],seen,t,x,h=>by cases h
 | (t', y) :: l, seen, t, x, h=>by
  unfold noK at h
  rw [aad]
  have rest:∀ {l':abr}, lk (noK k (t' :: seen) l) t = some x -> t ∉ seen /\ (if t = t' then y else lk l t) = some x:=by
   intro _ h
   obtain ⟨h1,h2⟩:=a1q h
   rw [if_neg (fun (e:t = t')=>h1 (by rw [e]; exact mem_cons_self ..))]
   exact ⟨fun hh=>h1 (mem_cons_of_mem _ hh),h2⟩
  split at h
  ·rename_i hm
   obtain ⟨h1,h2⟩:=a1q h
   refine ⟨h1,?_⟩
   rw [if_neg (fun (e:t = t')=>h1 (by rw [e]; exact aig.1 hm))]; exact h2
  ·rename_i hm
   have hm':t' ∉ seen:=fun hh=>by rw [aig.2 hh] at hm; cases hm
   split at h
   ·split at h
    ·exact rest (l':=l) h
    ·rw [aad] at h
     split at h
     ·rename_i e; cases h; subst e; exact ⟨hm',by rw [if_pos rfl]⟩
     ·rename_i e
      obtain ⟨h1,h2⟩:=a1q h
      rw [if_neg e]
      exact ⟨fun hh=>h1 (mem_cons_of_mem _ hh),h2⟩
   ·exact rest (l':=l) h
def bro (s:AS) (k d:Nat) (y:Blk):AS:=⟨ak3 (AV.rn k d) s.sl,aue k d y s.hp⟩
def bqd (s:AS) (av:List Nat) (d:Nat):Option AS:=match s.freshB d with
  | true=>some s
  | false=>match s.blk d with
    | some y=>match s.freshB (nxt s av) with
      | true=>some (bro s d (nxt s av) y)
      | false=>none
    | none=>some ⟨noK d [] s.sl,s.hp⟩
theorem bid {s s':AS} {av:List Nat} {d:Nat} (h:bqd s av d = some s'):Wk s s':=by
 unfold bqd at h
 split at h
 ·cases h; exact .refl _
 ·split at h
  ·rename_i y hy
   split at h
   ·rename_i hf; cases h; exact Wk.rekey hy hf
   ·cases h
  ·cases h; exact a0c (fun t x h=>(a1q h).2) (fun _ _ h=>h)
def brx (o:Oper):Option Nat:=match o.dst with
  | some d=>match o.op with
    | .alloc _=>some d
    | .box _ _=>some d
    | .makeSlice _ _ _=>some d
    | .buildSlice _ 0 _=>some d
    | .slice _ _ _ _ (some _)=>some d
    | .call ⟨.builtin .append,_,_⟩=>some d
    | _=>none
  | none=>none
def bl9 (av:List Nat):List Oper -> AS -> Option AS
  | [],s=>some s
  | o :: os, s=>match brx o with
    | some d=>match bqd s av d with
      | some s'=>bl9 av os s'
      | none=>none
    | none=>bl9 av os s
theorem ay5 {av:List Nat}:∀ {os:List Oper} {s s':AS}, bl9 av os s = some s' -> Wk s s'
 | [],s,s',h=>by cases h; exact .refl _
 | o :: os, s, s', h=>by
  unfold bl9 at h
  split at h
  ·split at h
   ·rename_i h1; exact (bid h1).trans (ay5 h)
   ·cases h
  ·exact ay5 h
inductive RR where
  | ok (s:AS) (us:List Out)
  | need (k:Nat)
  | no
def nB {α:Type}:List α -> Bool
  | []=>true
  | _=>false
def bon (E:Env P) (F:ain) (av fz:List Nat) (N:Nat) (R:List Oper):List Oper -> AS -> List Out -> RR
  | [],s,us=>.ok s us
  | o :: os, s, us=>match opE E F av fz N R s o with
    | .ok u=>match nB u.upd || a74 s u with
      | true=>match s.app o.dst u with
        | ⟨sl,hp⟩=>bon E F av fz N R os ⟨sl,hp⟩ (us ++ [u])
      | false=>.no
    | .need k=>.need k
    | .no=>.no
theorem a93 {E:Env P} {F:ain} (hF:F.Ok P) {av fz:List Nat} {R:List Oper}:∀ {os:List Oper} {s:AS} {us:List Out} {s':AS} {us':List Out}, bon E F av fz N R os s us = .ok s' us' ->
  au4 P N R.toArray os s us (fun s2 us2=>s2 = s' /\ us2 = us')
 | [],s,us,s',us',h=>by cases h; exact ⟨rfl,rfl⟩
 | o :: os, s, us, s', us', h=>by
  unfold bon at h
  split at h
  ·rename_i u hu
   split at h
   ·rename_i hn
    refine ⟨u,bmv hF hu,?_,a93 hF h⟩
    cases hu':nB u.upd with
    | true =>
     intro k hk
     have:u.upd = []:=by cases hq:u.upd with | nil=>rfl | cons a b=>rw [hq] at hu'; cases hu'
     rw [this] at hk; cases hk
    | false=>rw [hu'] at hn; exact al1 hn
   ·cases h
  ·cases h
  ·cases h
structure Sys where
  code:Nat -> Nat -> List Nat -> Code -> AS -> Option (Exit × AS)
  fn:Nat -> List Nat -> FuncId -> List AV -> Hp -> Option (AV × Hp)
def trF (S:Sys) (base:Nat):ain:=fun av f xs H=>match brh base (H.map (·.1)) with
  | L=>match S.fn (base + 100) av f (tA L xs) (tH L H) with
    | some (r,H')=>some (rB L r,hB L H')
    | none=>none
def isR (e:Exit):Bool:=match e with
  | .normal=>true
  | _=>false
def bpq (s:AS) (k:Nat):Option AS:=match s.blk k with
  | some (.row sz es)=>some ⟨ak3 (AV.fz k sz es) s.sl,ag1 (AV.fz k sz es) k s.hp⟩
  | _=>none
theorem bh7 {s s':AS} {k:Nat} (h:bpq s k = some s'):Wk s s':=by
 unfold bpq at h
 split at h
 ·rename_i hk; cases h; exact Wk.freeze hk
 ·cases h
def blj (E:Env P) (F:ain) (av:List Nat) (N:Nat) (A:List Oper) (d:Bool):Nat -> List Nat -> AS -> Option AS
  | 0,_,_=>none
  | n + 1, fz, s0=>match bon E F av fz N A A s0 [] with
    | .ok s' us=>match d with
      | false=>some s'
      | true=>match chk A us s0 with
        | true=>some s'
        | false=>none
    | .need k=>match bpq s0 k with
      | some ⟨sl,hp⟩=>blj E F av N A d n fz ⟨sl,hp⟩
      | none=>match a3m k fz with
        | true=>none
        | false=>blj E F av N A d n (k :: fz) s0
    | .no=>none
theorem aza {E:Env P} {F:ain} (hF:F.Ok P) {av:List Nat} {id:Nat} {A:Array Oper} {d:Bool} (hnd:A.toList.all nd = true):∀ {n:Nat} {fz:List Nat} {s s1:AS}, blj E F av N A.toList d n fz s = some s1 ->
  AWP P N (.region id A d) (fun e' s'=>e' = .normal /\ s' = s1) s
 | 0,fz,s,s1,h=>by cases h
 | n + 1, fz, s, s1, h=>by
  unfold blj at h
  split at h
  ·rename_i s' us h1
   refine a8f (Q:=fun e' s'=>e' = .normal /\ s' = s1) (k:=[]) hnd (fun _=>(default:Tys P).mix) (al3 ?_ (a93 hF h1))
   rintro s2 us2 ⟨hs,hu⟩
   rw [hs,hu]
   split at h
   ·obtain rfl:=Option.some.inj h
    exact ⟨(fun e=>by cases e),rfl,rfl⟩
   ·split at h
    ·rename_i hc
     obtain rfl:=Option.some.inj h
     exact ⟨fun _=>hc,rfl,rfl⟩
    ·cases h
  ·split at h
   ·rename_i sl hp hf
    exact ae6 (bh7 hf) (aza hF hnd h)
   ·split at h
    ·cases h
    ·exact aza hF hnd h
  ·cases h
def awu (E:Env P) (S:Sys) (N base:Nat) (av:List Nat) (c:Code) (s:AS):Option (Exit × AS):=match c with
  | .skip=>some (.normal,s)
  | .ret=>some (.ret,s)
  | .exit id=>some (.exit id,s)
  | .seq x y=>match S.code N base av x s with
    | some (e, s1)=>match isR e with
      | true=>S.code N base av y s1
      | false=>some (e,s1)
    | none=>none
  | .block id c=>match S.code N base av c s with
    | some (e, s1)=>match e with
      | .exit id'=>match Nat.beq id' id with
        | true=>some (.normal,s1)
        | false=>some (.exit id',s1)
      | e=>some (e,s1)
    | none=>none
  | .cond c x y=>match rdC s c with
    | some (.v (.bool b))=>match b with
      | true=>S.code N base av x s
      | false=>S.code N base av y s
    | _=>none
  | .loop c=>match S.code N base av c s with
    | some (e, s1)=>match isR e with
      | true=>match ddS s1 with
        | ⟨sl,hp⟩=>S.code N base av (.loop c) ⟨sl,hp⟩
      | false=>some (e,s1)
    | none=>none
  | .region id A d=>match a5l A.toList with
    | true=>match bl9 av A.toList s with
      | some s0=>match blj E (trF S base) av N A.toList d 20 [] s0 with
        | some s'=>some (.normal,s')
        | none=>none
      | none=>none
    | false=>none
  | _=>none
def bkq (st:Nat):List Nat -> AS -> Option AS
  | [],s=>some s
  | k :: ks, s=>match s.blk k with
    | some y=>match bho s 100 st with
      | d=>match s.freshB d with
        | true=>bkq st ks (bro s k d y)
        | false=>none
    | none=>none
theorem aya {st:Nat}:∀ {ks:List Nat} {s s':AS}, bkq st ks s = some s' -> Wk s s'
 | [],s,s',h=>by cases h; exact .refl _
 | k :: ks, s, s', h=>by
  unfold bkq at h
  split at h
  ·rename_i y hy
   simp only at h
   split at h
   ·rename_i hf; exact (Wk.rekey (s:=s) hy hf).trans (aya h)
   ·cases h
  ·cases h
def cnt:Nat -> List Nat -> List Nat
  | _,[]=>[]
  | n,_ :: l=>n :: cnt (n + 1) l
def loc:List Nat -> List Nat
  | []=>[]
  | k :: ks=>match Nat.blt k 1000 with
    | true=>k :: loc ks
    | false=>loc ks
def bj6 (sl:abr):List Nat -> abr
  | []=>[]
  | t :: ts=>match lk sl t with
    | some x=>(t,some x) :: bj6 sl ts
    | none=>bj6 sl ts
theorem ayt {sl:abr}:∀ {ts:List Nat} {t:Nat} {x:AV}, lk (bj6 sl ts) t = some x -> lk sl t = some x
 | [],t,x,h=>by cases h
 | t' :: ts, t, x, h=>by
  unfold bj6 at h
  split at h
  ·rename_i y hy
   rw [aad] at h
   split at h
   ·rename_i e; cases h; rw [e]; exact hy
   ·exact ayt h
  ·exact ayt h
def rsT:List ResultVar -> List Nat
  | []=>[]
  | r :: rs=>(match r with
    | .tmp t=>t
    | .cell t _=>t) :: rsT rs
def bo7 (P:Program) [Inhabited (Tys P)] (rs:List ResultVar) (Hk:List Nat) (s:AS):Option (AV × Hp):=match be2 P s rs with
  | some ys=>some (alf ys,pkH s (a3t s 300 (AV.nms ys ++ Hk) []))
  | none=>none
theorem a58 {rs:List ResultVar} {Hk:List Nat} {s:AS} {r:AV} {H':Hp} (h:bo7 P rs Hk s = some (r, H')):∃ xs, ResL P s rs xs /\ Fin s (alf xs) r H':=by
 unfold bo7 at h
 split at h
 ·rename_i ys hy
  cases h
  exact ⟨ys,ay0 hy,.keep (fun k z hz=>ave hz)⟩
 ·cases h
def bqe (P:Program) [Inhabited (Tys P)] (av:List Nat) (rs:List ResultVar) (Hk:List Nat) (s:AS):Option (AV × Hp):=match a3t s 300 (AV.nms ((bj6 s.sl (rsT rs)).filterMap (·.2)) ++ Hk) [] with
  | K=>match loc K with
    | []=>bo7 P rs Hk s
    | k :: ks=>match bkq 700 (k :: ks) ⟨bj6 s.sl (rsT rs), pkH s K⟩ with
      | some s2=>match bkq (mx 299 av + 1) (cnt 700 (k :: ks)) s2 with
        | some s3=>bo7 P rs Hk s3
        | none=>none
      | none=>none
theorem bhu {av:List Nat} {rs:List ResultVar} {Hk:List Nat} {s:AS} {r:AV} {H':Hp} (h:bqe P av rs Hk s = some (r, H')):∃ s2, Wk s s2 /\ ∃ xs, ResL P s2 rs xs /\ Fin s2 (alf xs) r H':=by
 unfold bqe at h
 simp only at h
 split at h
 ·exact ⟨s,.refl _,a58 h⟩
 ·split at h
  ·rename_i s2 h2
   split at h
   ·rename_i s3 h3
    exact ⟨s3,((a0c (fun t x=>ayt) (fun k x=>ave)).trans (aya h2)).trans (aya h3),a58 h⟩
   ·cases h
  ·cases h
def bcv:Hp -> Bool
  | []=>true
  | (k,_) :: l=>Nat.ble 1000 k && bcv l
theorem a09:∀ {H:Hp} {k:Nat} {z:Blk}, bcv H = true -> lk H k = some z -> 1000 <= k
 | [],k,z,_,h=>by cases h
 | (k', x) :: l, k, z, h0, h=>by
  simp only [bcv,and_eq_true,Nat.ble_eq] at h0
  rw [aad] at h
  split at h
  ·rename_i e; rw [e]; exact h0.1
  ·exact a09 h0.2 h
def fnS (E:Env P) (S:Sys) (base:Nat) (av:List Nat) (f:FuncId) (xs:List AV) (H:Hp):Option (AV × Hp):=match E.fe f with
  | some fe=>match Nat.beq fe.f f && bcv H with
    | true=>match a3l 0 xs with
      | some sl=>match S.code fe.fn.ntmps base av fe.c ⟨sl, H⟩ with
        | some (e, s1)=>match a6s e with
          | true=>bqe P av fe.rs (H.map (·.1)) s1
          | false=>none
        | none=>none
      | none=>none
    | false=>none
  | none=>none
def ev (E:Env P) (n:Nat):Sys:=Nat.rec ⟨fun _ _ _ _ _=>none,fun _ _ _ _ _=>none⟩ (fun _ S=>⟨awu E S,fnS E S⟩) n
structure SysOk (P:Program) (S:Sys):Prop where
  code:∀ N base av c s e s1,S.code N base av c s = some (e,s1) -> AWP P N c (fun e' s'=>e' = e /\ s' = s1) s
  fn:∀ base av f xs H r H',S.fn base av f xs H = some (r,H') -> Con P f xs H r H'
theorem bkp {P:Program} {S:Sys} (h:SysOk P S) (base:Nat):(trF S base).Ok P:=by
 intro av f xs H r H' h1
 unfold trF at h1
 simp only at h1
 split at h1
 ·rename_i h2; cases h1; exact brs (h.fn _ _ _ _ _ _ _ h2)
 ·cases h1
theorem bku {E:Env P} {S:Sys} (h:SysOk P S) {base:Nat} {av:List Nat} {f:FuncId} {xs:List AV} {H H':Hp} {r:AV} (h1:fnS E S base av f xs H = some (r, H')):Con P f xs H r H':=by
 unfold fnS at h1
 split at h1
 ·rename_i fe hfe
  split at h1
  ·rename_i hc
   simp only [and_eq_true] at hc
   have hf:=eq_of_beq_eq_true hc.1
   subst hf
   split at h1
   ·rename_i sl hsl
    cases aoz hsl
    split at h1
    ·rename_i e s1 h2
     split at h1
     ·rename_i he
      refine a9e fe.hf fe.hb fe.hn fe.hrs rfl (fun k z hz=>a09 hc.2 hz) ?_
      refine a9g (h.code _ _ _ _ _ _ _ h2) ?_
      rintro e' s' ⟨he',hs'⟩
      rw [he',hs']
      obtain ⟨s2,hw,hx⟩:=bhu h1
      refine ⟨s2,hw,?_⟩
      cases e <;> first | exact hx | exact (nomatch he)
     ·cases h1
    ·cases h1
   ·cases h1
  ·cases h1
 ·cases h1
theorem bdm (E:Env P):∀ n m, m <= n -> SysOk P (ev E m)
 | 0, m, hm=>by
  have:m = 0:=by omega
  subst this
  exact { code:=(fun _ _ _ _ _ _ _ h=>by cases h),fn:=(fun _ _ _ _ _ _ _ h=>by cases h) }
 | n + 1, m, hm=>by
  by_cases hmn:m <= n
  ·exact bdm E n m hmn
  ·have : m = n + 1 := by omega
   subst this
   have ih:=bdm E n n (le_refl _)
   refine ⟨?_,fun base av f xs H r H' h=>bku ih h⟩
   intro N base av c s e s1 h
   change awu E (ev E n) N base av c s = some (e,s1) at h
   cases c with
   | skip=>cases h; exact a0w ⟨rfl,rfl⟩
   | ret=>cases h; exact a8h ⟨rfl,rfl⟩
   | exit id=>cases h; exact a1l ⟨rfl,rfl⟩
   | seq x y =>
    simp only [awu] at h
    split at h
    ·rename_i e1 s2 h1
     refine a7p fun K hK=>acr (ih.code _ _ _ _ _ _ _ h1) ?_
     rintro e' s' ⟨he,hs⟩
     rw [he,hs]
     split at h
     ·rename_i hr
      cases e1 <;> first | exact hK _ (ih.code _ _ _ _ _ _ _ h) | exact (nomatch hr)
     ·rename_i hr
      obtain ⟨rfl,rfl⟩:=Prod.mk.inj (Option.some.inj h)
      cases e1 <;> first | exact ⟨rfl,rfl⟩ | exact (nomatch hr)
    ·cases h
   | block id c =>
    simp only [awu] at h
    split at h
    ·rename_i e1 s2 h1
     refine av9 (acr (ih.code _ _ _ _ _ _ _ h1) ?_)
     rintro e' s' ⟨he,hs⟩
     rw [he,hs]
     split at h
     ·rename_i id'
      show match Nat.beq id' id with | true=>_ | false=>_
      split at h
      ·rename_i hb
       obtain ⟨rfl,rfl⟩:=Prod.mk.inj (Option.some.inj h)
       simp only []; exact ⟨trivial,trivial⟩
      ·rename_i hb
       obtain ⟨rfl,rfl⟩:=Prod.mk.inj (Option.some.inj h)
       simp only []; exact ⟨trivial,trivial⟩
     ·rename_i hne
      obtain ⟨rfl,rfl⟩:=Prod.mk.inj (Option.some.inj h)
      cases e1 <;> first | exact ⟨rfl,rfl⟩ | exact absurd rfl (hne _)
    ·cases h
   | cond c x y =>
    simp only [awu] at h
    split at h
    ·rename_i b hb
     split at h
     ·exact auq (abc hb) (fun _=>ih.code _ _ _ _ _ _ _ h) (fun e=>by cases e)
     ·exact auq (abc hb) (fun e=>by cases e) (fun _=>ih.code _ _ _ _ _ _ _ h)
    ·cases h
   | loop c =>
    refine aif (fun m s=>m <= n + 1 /\ (ev E m).code N base av (.loop c) s = some (e,s1)) (n:=n + 1) (.refl _) ⟨le_refl _,h⟩ ?_
    rintro m s ⟨hm,hI⟩ K hK
    cases m with
    | zero=>cases hI
    | succ m =>
     change awu E (ev E m) N base av (.loop c) s = some (e,s1) at hI
     have ihm:=bdm E n m (by omega)
     simp only [awu] at hI
     split at hI
     ·rename_i e1 s2 h1
      refine acr (ihm.code _ _ _ _ _ _ _ h1) ?_
      rintro e' s' ⟨he,hs⟩
      rw [he,hs]
      split at hI
      ·rename_i hr
       cases e1 <;> first | exact hK _ _ m (bqh s2) ⟨by omega,hI⟩ (by omega) | exact (nomatch hr)
      ·rename_i hr
       obtain ⟨rfl,rfl⟩:=Prod.mk.inj (Option.some.inj hI)
       cases e1 <;> first | exact ⟨rfl,rfl⟩ | exact (nomatch hr)
     ·cases hI
   | region id A d =>
    simp only [awu] at h
    split at h
    ·rename_i hnd
     split at h
     ·rename_i s0 h0
      refine ae6 (ay5 h0) ?_
      split at h
      ·rename_i s' h1
       obtain ⟨rfl,rfl⟩:=Prod.mk.inj (Option.some.inj h)
       exact aza (bkp ih base) (atx hnd) h1
      ·cases h
     ·cases h
    ·cases h
   | _=>cases h
theorem aht (E:Env P) (n:Nat) {base:Nat} {av:List Nat} {f:FuncId} {xs:List AV} {H H':Hp} {r:AV} (h:(ev E n).fn base av f xs H = some (r, H')):Con P f xs H r H' :=
 (bdm E n n (le_refl _)).fn _ _ _ _ _ _ _ h
end Go.Lw
namespace Go.Lw
def bfp (s:ByteArray) (n:Int):Bd:=⟨s,[⟨⟨#[97]⟩,rt ((0:Int):Rat),rt ((0:Int):Rat)⟩,⟨⟨#[98]⟩,rt (n:Rat),rt ((0:Int):Rat)⟩]⟩
def fb:Li:=⟨⟨#[102, 111, 117, 114, 98, 97, 114]⟩, [bfp ⟨#[102, 114, 97, 109, 101]⟩ 4, bfp ⟨#[99, 114, 97, 110, 107]⟩ 3, bfp ⟨#[99, 111, 117, 112, 108, 101, 114]⟩ 5, bfp ⟨#[114, 111, 99, 107, 101, 114]⟩ 6],
  [⟨⟨#[111]⟩,0,1,0,0,0,0⟩,⟨⟨#[112]⟩,0,2,0,1,1,0⟩,⟨⟨#[113]⟩,0,3,0,0,1,0⟩,⟨⟨#[114]⟩,0,2,1,3,1,0⟩],[⟨⟨#[100]⟩,1⟩]⟩
def t0:Tn:=⟨⟨false,[],[]⟩,false⟩
theorem aur (a b:ByteArray):eqS a b = (a.data.toList == b.data.toList):=by
 unfold eqS; rw [Go.ByteArray.toList_eq,Go.ByteArray.toList_eq]
theorem ah1:liE fb = 0:=by
 have h1:azy fb = 0:=by
  unfold azy ad3 bdE aww mkE
  simp only [aur]
  decide +kernel
 have h2:aqn fb = 0:=by
  unfold aqn ad3 jtE aww
  simp only [aur]
  decide +kernel
 have h3:ayn fb = 0:=by
  unfold ayn ad3 drE aww
  simp only [aur]
  decide +kernel
 unfold liE
 rw [h1,h2,h3]
 decide +kernel
theorem bhj {s:ByteArray} (hs:s.size <= 281474976710656) {n:Int} (hn:-9223372036854775808 <= n /\ n <= 9223372036854775807) :
  (bfp s n).name.size <= 281474976710656 /\ (bfp s n).pts.length <= 281474976710656 /\ ∀ m ∈ (bfp s n).pts,m.name.size <= 281474976710656 /\ m.x.wok /\ m.y.wok:=by
 have h0:(rt ((0:Int):Rat)).ok:=(awl (by omega)).ok
 have h1:(rt (n:Rat)).ok:=(awl hn).ok
 refine ⟨hs,by show 2 <= _; omega,fun m hm=>?_⟩
 simp only [bfp,mem_cons,not_mem_nil,or_false] at hm
 rcases hm with rfl | rfl
 ·exact ⟨by show 1 <= _; omega,h0.wok,h0.wok⟩
 ·exact ⟨by show 1 <= _; omega,h1.wok,h0.wok⟩
theorem blo:fb.okw:=by
 refine ⟨by decide,fun b hb=>?_,fun j hj=>?_,fun d hd=>?_,by decide,by decide,by decide⟩
 ·simp only [fb, mem_cons, not_mem_nil, or_false] at hb
  rcases hb with rfl | rfl | rfl | rfl <;> exact bhj (by decide) (by omega)
 ·simp only [fb, mem_cons, not_mem_nil, or_false] at hj
  rcases hj with rfl | rfl | rfl | rfl <;> decide
 ·simp only [fb, mem_cons, not_mem_nil, or_false] at hd
  rcases hd with rfl; decide
theorem ahv:fb.ok:=bj1 (by decide +kernel) blo
end Go.Lw
namespace Go.Lw
open Go.Proofs
def feG (P:Program) (n:Nat):Option (FE P):=match h:P.funcs[n]? with
  | none=>none
  | some fn=>match hb:fn.body with
    | none=>none
    | some c => match hn : (fn.name == "runtime.NumGoroutine") with
      | true=>none
      | false=>some ⟨n,fn,c,fn.results.toList,h,hb,hn,by simp⟩
def smQ (q:Rat):Bool:=Nat.blt q.num.natAbs 18446744073709551616 && Nat.blt q.den 18446744073709551616
theorem be9 {q:Rat} (h:smQ q = true):Qb 64 q:=by
 simp only [smQ,and_eq_true,Nat.blt_eq] at h
 exact ⟨h.1,h.2⟩
theorem ah3 {q:Rat} (h:smQ q = true):Qs q:=(be9 h).qs (by omega)
def n0 (q:Rat):AV:=nA (sh 0 (q:Rat))
def z0:AV:=ad9 []
theorem ai0 {q:Rat} (h:smQ q = true):Nm ([]:List (List Rat)).length 64 (sh 0 (q:Rat)):=Nm.ofQ (by decide) (Cb.one (be9 h))
theorem a48 (q:Rat):dec ([]:List (List Rat)).length (sh 0 (q:Rat)) = q:=ane 0 q
theorem bfg:Tw [] 1 where
 three:=by decide
 len:=fun j hj=>absurd hj (Nat.not_lt_zero j)
 pos:=fun j hj=>absurd hj (Nat.not_lt_zero j)
 rb:=⟨1,1,by omega,fun d hd=>absurd hd not_mem_nil,by decide,by decide⟩
 le:=by decide
theorem lm0:lm ([]:List (List Rat)).length = 200000000000:=rfl
def dW:List AV -> Nat
  | []=>0
  | x :: l=>match x with
    | .v (.int _ (.ofNat n))=>n + 4294967296 * dW l
    | _=>0
def dWs:AV -> Nat
  | .lst _ l=>dW l
  | _=>0
def dQ (x:AV):Rat:=match x with
  | .agg (.v (.bool s) :: n :: d :: _)=>match s with
    | true=>mkRat (-(dWs n:Int)) (dWs d)
    | false=>mkRat (dWs n:Int) (dWs d)
  | _=>0
def dN (x:AV):Rat:=match x with
  | .lst _ (x :: _)=>dQ x
  | _=>0
abbrev En:=Option (Ent prog)
def w2 (f:FuncId) (g:Rat -> Rat -> AV) (h:∀ p q, smQ p = true -> smQ q = true -> FnC prog f [qA p, qA q] (g p q)) (p q:Rat):En:=match hh:smQ p && smQ q with
  | true=>some ⟨f,[qA p,qA q],g p q,[],h p q (by rw [and_eq_true] at hh; exact hh.1) (by rw [and_eq_true] at hh; exact hh.2)⟩
  | false=>none
def oQ2 (f:FuncId) (g:Rat -> Rat -> AV) (h:∀ p q, smQ p = true -> smQ q = true -> FnC prog f [qA p, qA q] (g p q)) (xs:List AV):En:=match xs with
  | [a,b]=>w2 f g h (dQ a) (dQ b)
  | _=>none
def w1 (f:FuncId) (a:Rat -> AV) (g:Rat -> AV) (h:∀ p, smQ p = true -> FnC prog f [a p] (g p)) (p:Rat):En:=match hh:smQ p with
  | true=>some ⟨f,[a p],g p,[],h p hh⟩
  | false=>none
def oQ1 (f:FuncId) (g:Rat -> AV) (h:∀ p, smQ p = true -> FnC prog f [qA p] (g p)) (xs:List AV):En:=match xs with
  | [a]=>w1 f qA g h (dQ a)
  | _=>none
def w3 (f:FuncId) (g:Rat -> Rat -> AV) (h:∀ p q, smQ p = true -> smQ q = true -> FnC prog f [z0, n0 p, n0 q] (g p q)) (p q:Rat):En:=match hh:smQ p && smQ q with
  | true=>some ⟨f,[z0,n0 p,n0 q],g p q,[],h p q (by rw [and_eq_true] at hh; exact hh.1) (by rw [and_eq_true] at hh; exact hh.2)⟩
  | false=>none
def oT2 (f:FuncId) (g:Rat -> Rat -> AV) (h:∀ p q, smQ p = true -> smQ q = true -> FnC prog f [z0, n0 p, n0 q] (g p q)) (xs:List AV):En:=match xs with
  | [_,a,b]=>w3 f g h (dN a) (dN b)
  | _=>none
def w4 (f:FuncId) (g:Rat -> AV) (h:∀ p, smQ p = true -> FnC prog f [z0, n0 p] (g p)) (p:Rat):En:=match hh:smQ p with
  | true=>some ⟨f,[z0,n0 p],g p,[],h p hh⟩
  | false=>none
def oT1 (f:FuncId) (g:Rat -> AV) (h:∀ p, smQ p = true -> FnC prog f [z0, n0 p] (g p)) (xs:List AV):En:=match xs with
  | [_,a]=>w4 f g h (dN a)
  | _=>none
def oC (f:FuncId) (ys:List AV) (r:AV) (h:FnC prog f ys r) (xs:List AV):En:=some ⟨f,ys,r,[],h⟩
def dI (x:AV):Int:=match x with
  | .v (.int _ z)=>z
  | _=>0
def oI (f:FuncId) (g:Int -> AV) (h:∀ z, (-9223372036854775808 <= z /\ z <= 9223372036854775807) -> FnC prog f [i64 z] (g z)) (xs:List AV):En:=match xs with
  | [a]=>match (inferInstance:Decidable (-9223372036854775808 <= dI a /\ dI a <= 9223372036854775807)) with
    | .isTrue hh=>some ⟨f,[i64 (dI a)],g (dI a),[],h (dI a) hh⟩
    | .isFalse _=>none
  | _=>none
theorem bp4 (p q:Rat) (hp:smQ p = true) (hq:smQ q = true):FnC prog 322 [z0, n0 p, n0 q] (.tup [n0 (p + q), .v .nilIface]):=by
 have h:=bfn bfg (ai0 hp) (ai0 hq) (by rw [lm0]; omega)
 rw [a48,a48] at h; exact h
theorem bpm (p q:Rat) (hp:smQ p = true) (hq:smQ q = true):FnC prog 321 [z0, n0 p, n0 q] (.tup [n0 (p + -q), .v .nilIface]):=by
 have h:=bex bfg (ai0 hp) (ai0 hq) (by rw [lm0]; omega)
 rw [a48,a48] at h; exact h
theorem bpd (p q:Rat) (hp:smQ p = true) (hq:smQ q = true):FnC prog 56 [z0, n0 p, n0 q] (.tup [n0 (p * q), .v .nilIface]):=by
 have h:=a7u bfg (ai0 hp) (ai0 hq) (by rw [lm0]; omega)
 rw [a48,a48] at h; exact h
theorem bk1 (p:Rat) (hp:smQ p = true):FnC prog 40 [z0, n0 p] (.tup [i64 (ajg p), .v .nilIface]):=by
 have h:=ayr bfg (ai0 hp) (by rw [lm0]; omega)
 rw [a48] at h; exact h
theorem bpk (p:Rat) (hp:smQ p = true):FnC prog 161 [z0, n0 p] (.tup [n0 (-p), .v .nilIface]):=by
 have h:=bfl bfg (ai0 hp) (by rw [lm0]; omega)
 rw [a48] at h; exact h
theorem biv (p q:Rat) (hp:smQ p = true) (hq:smQ q = true):FnC prog 27 [z0, n0 p, n0 q] (bl (decide (ajg (p + -q) = 0))):=by
 have h:=ab8 bfg (ai0 hp) (ai0 hq) (by rw [lm0]; omega)
 rw [a48,a48] at h; exact h
def bry:FuncId -> Option (List AV -> En)
  | 322=>some (oT2 322 _ bp4)
  | 321=>some (oT2 321 _ bpm)
  | 56=>some (oT2 56 _ bpd)
  | 40=>some (oT1 40 _ bk1)
  | 161=>some (oT1 161 _ bpk)
  | 158=>some (oC 158 [z0] (.v .nilIface) (a0r bfg))
  | 136=>some (oQ1 136 n0 fun _ h=>axc (ah3 h))
  | 27=>some (oT2 27 _ biv)
  | 137=>some (oI 137 (fun z=>qA z) ad2)
  | 189=>some (oI 189 (fun z=>qA z) amr)
  | 101=>some (oQ1 101 n0 fun _ h=>azx (ah3 h))
  | 142=>some (oQ2 142 (fun p q=>qA (p + q)) fun _ _ h h'=>bc4 (ah3 h) (ah3 h'))
  | 258=>some (oQ2 258 (fun p q=>qA (p - q)) fun _ _ h h'=>a9w (ah3 h) (ah3 h'))
  | 204=>some (oQ2 204 (fun p q=>qA (p * q)) fun _ _ h h'=>a28 (ah3 h) (ah3 h'))
  | 396=>some (oQ2 396 (fun p q=>.tup [qA (p / q),ahr (if q = 0 then 8 else 0)]) fun _ _ h h'=>bmo (ah3 h) (ah3 h'))
  | 69=>some (oQ1 69 (fun p=>qA (-p)) fun _ h=>bpo (ah3 h))
  | 179=>some (oQ1 179 (fun p=>i64 (ajg p)) fun _ h=>bm1 (ah3 h))
  | _=>none
def dIs (x:AV):List Int:=match x with
  | .lst _ es=>es.map dI
  | _=>[]
def dG (x:AV):Gr:=match x with
  | .agg [k,b,j,d]=>⟨dI k,dIs b,dIs j,dI d⟩
  | _=>default
def bp8 (n:Nat) (l:List Int):Bool:=l.all fun z=>aab .leq 0 z && aab .lss z n
theorem a9o {n:Nat} {l:List Int} (h:bp8 n l = true):∀ x ∈ l, 0 <= x /\ x < n:=by
 intro x hx
 have:=List.all_eq_true.1 h x hx
 simp only [and_eq_true,aab,decide_eq_true_eq] at this
 exact this
def grB (l:Li) (g:Gr):Bool:=bp8 l.bodies.length g.bodies && bp8 l.joints.length g.joints && Nat.ble g.bodies.length 2 && Nat.ble g.joints.length 3
theorem blc {l:Li} {g:Gr} (h:grB l g = true):GrOk l g:=by
 simp only [grB,and_eq_true,Nat.ble_eq] at h
 exact ⟨a9o h.1.1.1,a9o h.1.1.2,h.1.2,h.2⟩
def brw (l:Li) (hl:l.ok) (hli:liE l = 0) (g:Gr):En:=match hh:grB l g with
  | true=>some ⟨159,[l.av,g.av],_,_,ape l hl hli g (blc hh)⟩
  | false=>none
def br5 (l:Li) (hl:l.ok) (hli:liE l = 0) (xs:List AV):En:=match xs with
  | [_,g]=>brw l hl hli (dG g)
  | _=>none
theorem bi8 (l:Li) (hl:l.ok) (hli:liE l = 0):FnC prog 80 [l.av] (.tup [.lst 4 ((splitG l).map Gr.av), ahr (splitE l)]):=by
 have h:=aqz l hl
 rw [if_pos hli,if_pos hli] at h; exact h
def asj (l:Li) (hl:l.ok) (hli:liE l = 0):FuncId -> Option (List AV -> En)
  | 80=>some (oC 80 [l.av] _ (bi8 l hl hli))
  | 159=>some (br5 l hl hli)
  | 212=>some (oQ1 212 (fun p=>bl (rt p).valid) fun _ h=>acj _ (ah3 h).ok)
  | f=>bry f
def orP:List (Ent prog) -> FuncId -> Bool
  | [],_=>false
  | e :: l, f=>match Nat.beq e.f f with
    | true=>true
    | false=>orP l f
def orS (xs:List AV) (f:FuncId):List (Ent prog) -> En
  | []=>none
  | e :: l=>match Nat.beq e.f f && aze xs e.xs with
    | true=>some e
    | false=>orS xs f l
def orF (L:List (Ent prog)) (o:FuncId -> Option (List AV -> En)) (f:FuncId):Option (List AV -> En):=match orP L f with
  | true=>some fun xs=>match orS xs f L with
    | some e=>some e
    | none=>match o f with
      | some g=>g xs
      | none=>none
  | false=>o f
def as0 (n:FuncId):Bool:=Nat.beq n 160 || (Nat.beq n 253 || Nat.beq n 309)
end Go.Lw
namespace Go.Lw
open Go.Proofs
theorem bqq (p q:Rat) (hp:smQ p = true) (hq:smQ q = true):FnC prog 57 [z0, n0 p, n0 q] (.tup [i64 (ajg (p + -q)), .v .nilIface]):=by
 have h:=awp bfg (ai0 hp) (ai0 hq) (by rw [lm0]; omega)
 rw [a48,a48] at h; exact h
def aso (o:FuncId -> Option (List AV -> En)):FuncId -> Option (List AV -> En)
  | 57=>some (oT2 57 _ bqq)
  | f=>o f
end Go.Lw
namespace Go.Lw
open Go.Proofs
set_option maxRecDepth 20000
def bkz:AV:=.agg [.v (.string ⟨⟨[111]⟩⟩),.v (.int .i64 0),.v (.int .i64 1),.v (.int .i64 0),.v (.int .i64 0),.v (.int .i64 0),.v (.int .i64 0)]
def blr:AV:=.agg [.v (.string ⟨⟨[112]⟩⟩),.v (.int .i64 0),.v (.int .i64 2),.v (.int .i64 0),.v (.int .i64 1),.v (.int .i64 1),.v (.int .i64 0)]
def bnd:AV:=.agg [.v (.string ⟨⟨[113]⟩⟩),.v (.int .i64 0),.v (.int .i64 3),.v (.int .i64 0),.v (.int .i64 0),.v (.int .i64 1),.v (.int .i64 0)]
def bkt:AV:=.agg [.v (.string ⟨⟨[114]⟩⟩),.v (.int .i64 0),.v (.int .i64 2),.v (.int .i64 1),.v (.int .i64 3),.v (.int .i64 1),.v (.int .i64 0)]
def be0:AV:=.agg [.lst 3 [.agg [.v (.bool false),.lst 1 [.v (.int .u32 1)],.lst 1 [.v (.int .u32 1)]]],.v (.slice none 0 0),.lst 3 [],.lst 3 []]
def bny:AV:=.agg [.v (.string ⟨⟨[98]⟩⟩),.v (.bool false),.lst 1 [.v (.int .u32 4)],.lst 1 [.v (.int .u32 1)],.v (.bool false),.lst 1 [],.lst 1 []]
def bnx:AV:=.agg [.v (.string ⟨⟨[98]⟩⟩),.v (.bool false),.lst 1 [.v (.int .u32 3)],.lst 1 [.v (.int .u32 1)],.v (.bool false),.lst 1 [],.lst 1 []]
def bmr:AV:=.agg [.v (.string ⟨⟨[98]⟩⟩),.v (.bool false),.lst 1 [.v (.int .u32 5)],.lst 1 [.v (.int .u32 1)],.v (.bool false),.lst 1 [],.lst 1 []]
def bl3:AV:=.agg [.v (.string ⟨⟨[98]⟩⟩),.v (.bool false),.lst 1 [.v (.int .u32 6)],.lst 1 [.v (.int .u32 1)],.v (.bool false),.lst 1 [],.lst 1 []]
def bfi:AV:=.agg [.v (.slice none 0 0),.lst 2 [.agg [.lst 3 [.agg [.v (.bool true),.lst 1 [.v (.int .u32 2)],.lst 1 [.v (.int .u32 1)]]],.lst 3 []]]]
def ata:AV:=.agg [.lst 3 [.agg [.v (.bool false),.lst 1 [.v (.int .u32 1)],.lst 1 [.v (.int .u32 1)]]],.v (.slice none 0 0),.v (.slice none 0 0),.v (.slice none 0 0)]
def bj0:AV:=.agg [.lst 3 [.agg [.v (.bool true),.lst 1 [.v (.int .u32 1)],.lst 1 [.v (.int .u32 1)]]],.v (.slice none 0 0),.lst 3 [.agg [.v (.bool false),.lst 1 [.v (.int .u32 3)],.lst 1 [.v (.int .u32 1)]]],.lst 3 []]
def bgn:AV:=.agg [.lst 3 [.agg [.v (.bool true),.lst 1 [.v (.int .u32 1)],.lst 1 [.v (.int .u32 1)]]],.v (.slice none 0 0),.lst 3 [.agg [.v (.bool false),.lst 1 [.v (.int .u32 4)],.lst 1 [.v (.int .u32 1)]]],.lst 3 []]
def bhl:AV:=.agg [.lst 3 [.agg [.v (.bool true),.lst 1 [.v (.int .u32 1)],.lst 1 [.v (.int .u32 1)]]],.v (.slice none 0 0),.lst 3 [.agg [.v (.bool false),.lst 1 [.v (.int .u32 3)],.lst 1 [.v (.int .u32 1)]]],.v (.slice none 0 0)]
def bht:AV:=.agg [.lst 3 [.agg [.v (.bool true),.lst 1 [.v (.int .u32 1)],.lst 1 [.v (.int .u32 1)]]],.v (.slice none 0 0),.lst 3 [.agg [.v (.bool false),.lst 1 [.v (.int .u32 4)],.lst 1 [.v (.int .u32 1)]]],.v (.slice none 0 0)]
def bjq:AV:=.lst 7 [.agg [.v (.string ⟨⟨[97]⟩⟩),.v (.bool false),.lst 1 [],.lst 1 [],.v (.bool false),.lst 1 [],.lst 1 []],bny]
def bhm:AV:=.lst 7 [.agg [.v (.string ⟨⟨[97]⟩⟩),.v (.bool false),.lst 1 [],.lst 1 [],.v (.bool false),.lst 1 [],.lst 1 []],bnx]
def bgh:AV:=.lst 7 [.agg [.v (.string ⟨⟨[97]⟩⟩),.v (.bool false),.lst 1 [],.lst 1 [],.v (.bool false),.lst 1 [],.lst 1 []],bmr]
def bi9:AV:=.lst 7 [.agg [.v (.string ⟨⟨[97]⟩⟩),.v (.bool false),.lst 1 [],.lst 1 [],.v (.bool false),.lst 1 [],.lst 1 []],bl3]
def bhv:AV:=.agg [.v (.string ⟨⟨[99,114,97,110,107]⟩⟩),bhm]
def bij:AV:=.agg [.v (.string ⟨⟨[102,114,97,109,101]⟩⟩),bjq]
def biy:AV:=.agg [.v (.string ⟨⟨[114,111,99,107,101,114]⟩⟩),bi9]
def biu:AV:=.agg [.v (.string ⟨⟨[99,111,117,112,108,101,114]⟩⟩),bgh]
def bjp:AV:=.lst 4 [bj0,bgn]
def a7e:AV:=.agg [.v (.slice none 0 0),bjp,.v (.int .i64 0)]
def bgw:AV:=.lst 7 [bkz,blr,bnd,bkt]
def bi3:AV:=.lst 4 [ata,ata,bhl,bht]
def ali:AV:=.agg [.v (.slice none 0 0),bi3,.lst 1 [.v (.int .i64 1),.v (.int .i64 0)]]
def bh8:AV:=.lst 2 [bij,bhv,biu,biy]
def ahf:AV:=.agg [.v (.string ⟨⟨[102,111,117,114,98,97,114]⟩⟩),bh8,bgw,.lst 2 [.agg [.v (.string ⟨⟨[100]⟩⟩),.v (.int .i64 1)]]]
theorem bph:Con prog 29 [] [] (ahf) []:=aht ⟨orF [] (aso (asj fb ahv ah1)),feG prog,as0⟩ 6000 (base:=2000) (av:=[]) (by kernel_rfl)
def bfm:List (Ent prog):=⟨_,_,_,_,bph⟩ :: []
theorem bqy:Con prog 133 [ahf,.v (.int .i64 0),.agg [.v (.bool false),.v (.slice none 0 0),.v (.slice none 0 0),.v (.bool false)],.agg [.v (.slice none 0 0),.lst 4 [ata,.agg [.v (.slice none 0 0),.v (.slice none 0 0),.v (.slice none 0 0),.v (.slice none 0 0)],.agg [.v (.slice none 0 0),.v (.slice none 0 0),.v (.slice none 0 0),.v (.slice none 0 0)],.agg [.v (.slice none 0 0),.v (.slice none 0 0),.v (.slice none 0 0),.v (.slice none 0 0)]],.v (.slice none 0 0)]] [] (.tup [.lst 3 [.agg [.v (.slice none 0 0),.lst 4 [be0],.v (.int .i64 1)]],.v .nilIface]) []:=aht ⟨orF bfm (aso (asj fb ahv ah1)),feG prog,as0⟩ 6000 (base:=2000) (av:=[]) (by kernel_rfl)
def bfc:List (Ent prog):=⟨_,_,_,_,bqy⟩ :: bfm
theorem bo8:Con prog 280 [.agg [.v (.slice none 0 0)],.agg [.lst 3 [.agg [.v (.bool false),.lst 1 [.v (.int .u32 3)],.lst 1 [.v (.int .u32 1)]]],.lst 3 [],.lst 3 [.agg [.v (.bool false),.lst 1 [.v (.int .u32 25)],.lst 1 [.v (.int .u32 1)]]]],.agg [.lst 3 [.agg [.v (.bool false),.lst 1 [.v (.int .u32 4)],.lst 1 [.v (.int .u32 1)]]],.lst 3 [],.lst 3 [.agg [.v (.bool false),.lst 1 [.v (.int .u32 36)],.lst 1 [.v (.int .u32 1)]]]]] [] (.tup [bfi,.v .nilIface]) []:=aht ⟨orF bfc (aso (asj fb ahv ah1)),feG prog,as0⟩ 6000 (base:=2000) (av:=[]) (by kernel_rfl)
def be6:List (Ent prog):=⟨_,_,_,_,bo8⟩ :: bfc
theorem bp0:Con prog 282 [bfi,.lst 14 [.agg [.v (.bool false),.lst 1 [],.lst 1 [],.v (.bool false),.lst 1 [],.lst 1 [],.lst 3 [.agg [.v (.bool false),.lst 1 [.v (.int .u32 3)],.lst 1 [.v (.int .u32 1)]]],.lst 3 [],.v (.bool false),.lst 1 [.v (.int .u32 5)],.lst 1 [.v (.int .u32 1)],.v (.bool false),.lst 1 [],.lst 1 []],.agg [.v (.bool false),.lst 1 [],.lst 1 [],.v (.bool false),.lst 1 [],.lst 1 [],.lst 3 [.agg [.v (.bool false),.lst 1 [.v (.int .u32 4)],.lst 1 [.v (.int .u32 1)]]],.lst 3 [],.v (.bool false),.lst 1 [.v (.int .u32 6)],.lst 1 [.v (.int .u32 1)],.v (.bool false),.lst 1 [],.lst 1 []]]] [] (.tup [.ms 300 3 0 1,.v .nilIface]) [(300,some (.row 3 [a7e]))]:=aht ⟨orF be6 (aso (asj fb ahv ah1)),feG prog,as0⟩ 6000 (base:=2000) (av:=[]) (by kernel_rfl)
def bfr:List (Ent prog):=⟨_,_,_,_,bp0⟩ :: be6
theorem bqt:Con prog 133 [ahf,.v (.int .i64 1),.agg [.v (.bool false),.v (.slice none 0 0),.v (.slice none 0 0),.v (.bool false)],.agg [.v (.slice none 0 0),.lst 4 [ata,be0,.agg [.v (.slice none 0 0),.v (.slice none 0 0),.v (.slice none 0 0),.v (.slice none 0 0)],.agg [.v (.slice none 0 0),.v (.slice none 0 0),.v (.slice none 0 0),.v (.slice none 0 0)]],.lst 1 [.v (.int .i64 1)]]] [] (.tup [.ms 300 3 0 1,.v .nilIface]) [(300,some (.row 3 [a7e]))]:=aht ⟨orF bfr (aso (asj fb ahv ah1)),feG prog,as0⟩ 6000 (base:=2000) (av:=[]) (by kernel_rfl)
def bgc:List (Ent prog):=⟨_,_,_,_,bqt⟩ :: bfr
theorem bpw:Con prog 214 [.lst 3 [.agg [.v (.bool false),.lst 1 [.v (.int .u32 1)],.lst 1 [.v (.int .u32 1)]]]] [] (.ms 300 3 0 1) [(300,some (.row 3 [.agg [.v (.bool false),.lst 1 [.v (.int .u32 1)],.lst 1 [.v (.int .u32 1)]]]))]:=aht ⟨orF bgc (aso (asj fb ahv ah1)),feG prog,as0⟩ 6000 (base:=2000) (av:=[]) (by kernel_rfl)
def bes:List (Ent prog):=⟨_,_,_,_,bpw⟩ :: bgc
theorem bpc:Con prog 214 [.v (.slice none 0 0)] [] (.v (.slice none 0 0)) []:=aht ⟨orF bes (aso (asj fb ahv ah1)),feG prog,as0⟩ 6000 (base:=2000) (av:=[]) (by kernel_rfl)
def bfj:List (Ent prog):=⟨_,_,_,_,bpc⟩ :: bes
theorem bql:Con prog 214 [.lst 3 []] [] (.v (.slice none 0 0)) []:=aht ⟨orF bfj (aso (asj fb ahv ah1)),feG prog,as0⟩ 6000 (base:=2000) (av:=[]) (by kernel_rfl)
def be5:List (Ent prog):=⟨_,_,_,_,bql⟩ :: bfj
theorem brd:Con prog 214 [.lst 3 [.agg [.v (.bool true),.lst 1 [.v (.int .u32 1)],.lst 1 [.v (.int .u32 1)]]]] [] (.ms 300 3 0 1) [(300,some (.row 3 [.agg [.v (.bool true),.lst 1 [.v (.int .u32 1)],.lst 1 [.v (.int .u32 1)]]]))]:=aht ⟨orF be5 (aso (asj fb ahv ah1)),feG prog,as0⟩ 6000 (base:=2000) (av:=[]) (by kernel_rfl)
def bez:List (Ent prog):=⟨_,_,_,_,brd⟩ :: be5
theorem bpv:Con prog 214 [.lst 3 [.agg [.v (.bool false),.lst 1 [.v (.int .u32 3)],.lst 1 [.v (.int .u32 1)]]]] [] (.ms 300 3 0 1) [(300,some (.row 3 [.agg [.v (.bool false),.lst 1 [.v (.int .u32 3)],.lst 1 [.v (.int .u32 1)]]]))]:=aht ⟨orF bez (aso (asj fb ahv ah1)),feG prog,as0⟩ 6000 (base:=2000) (av:=[]) (by kernel_rfl)
def bew:List (Ent prog):=⟨_,_,_,_,bpv⟩ :: bez
theorem bm8:Con prog 214 [.lst 3 [.agg [.v (.bool false),.lst 1 [.v (.int .u32 4)],.lst 1 [.v (.int .u32 1)]]]] [] (.ms 300 3 0 1) [(300,some (.row 3 [.agg [.v (.bool false),.lst 1 [.v (.int .u32 4)],.lst 1 [.v (.int .u32 1)]]]))]:=aht ⟨orF bew (aso (asj fb ahv ah1)),feG prog,as0⟩ 6000 (base:=2000) (av:=[]) (by kernel_rfl)
def ba8:List (Ent prog):=⟨_,_,_,_,bm8⟩ :: bew
theorem bn3:Con prog 30 [ahf,.lst 4 [.agg [.v (.bool false),.v (.slice none 0 0),.v (.slice none 0 0),.v (.bool false)]],.lst 1 [.v (.int .i64 1),.v (.int .i64 0)]] [] (.tup [ali,.v .nilIface]) []:=aht ⟨orF ba8 (aso (asj fb ahv ah1)),feG prog,as0⟩ 6000 (base:=2000) (av:=[]) (by kernel_rfl)
def a6q:List (Ent prog):=⟨_,_,_,_,bn3⟩ :: ba8
theorem bk2:Con prog 157 [ahf,.lst 4 [.agg [.v (.bool false),.v (.slice none 0 0),.v (.slice none 0 0),.v (.bool false)]],ali] [] (.agg [.v (.int .i64 0),.v (.int .i64 0)]) []:=aht ⟨orF a6q (aso (asj fb ahv ah1)),feG prog,as0⟩ 6000 (base:=2000) (av:=[]) (by kernel_rfl)
def ba0:List (Ent prog):=⟨_,_,_,_,bk2⟩ :: a6q
theorem bmh:Con prog 39 [ahf,.v (.int .i64 0),ali] [] (.tup [.lst 3 [.agg [.v (.bool false),.lst 1 [.v (.int .u32 1)],.lst 1 [.v (.int .u32 1)]]],.v .nilIface]) []:=aht ⟨orF ba0 (aso (asj fb ahv ah1)),feG prog,as0⟩ 6000 (base:=2000) (av:=[]) (by kernel_rfl)
def a6p:List (Ent prog):=⟨_,_,_,_,bmh⟩ :: ba0
theorem blw:Con prog 39 [ahf,.v (.int .i64 1),ali] [] (.tup [.lst 3 [],.v .nilIface]) []:=aht ⟨orF a6p (aso (asj fb ahv ah1)),feG prog,as0⟩ 6000 (base:=2000) (av:=[]) (by kernel_rfl)
def a94:List (Ent prog):=⟨_,_,_,_,blw⟩ :: a6p
theorem bn8:Con prog 23 [ahf,.lst 4 [.agg [.v (.bool false),.v (.slice none 0 0),.v (.slice none 0 0),.v (.bool false)]],ali] [] (.tup [.ms 300 1 0 1,.v .nilIface]) [(300,some (.row 1 [.v (.int .i64 1)]))]:=aht ⟨orF a94 (aso (asj fb ahv ah1)),feG prog,as0⟩ 6000 (base:=2000) (av:=[]) (by kernel_rfl)
def a6g:List (Ent prog):=⟨_,_,_,_,bn8⟩ :: a94
theorem bmm:Con prog 113 [.agg [.v (.slice none 0 0)],.agg [.lst 3 [.agg [.v (.bool false),.lst 1 [.v (.int .u32 3)],.lst 1 [.v (.int .u32 1)]]],.lst 3 []],.agg [.lst 3 [.agg [.v (.bool false),.lst 1 [.v (.int .u32 4)],.lst 1 [.v (.int .u32 1)]]],.lst 3 []],.agg [.lst 3 [.agg [.v (.bool true),.lst 1 [.v (.int .u32 2)],.lst 1 [.v (.int .u32 1)]]],.lst 3 []]] [] (.tup [.v (.bool false),.v .nilIface]) []:=aht ⟨orF a6g (aso (asj fb ahv ah1)),feG prog,as0⟩ 6000 (base:=2000) (av:=[]) (by kernel_rfl)
def a9q:List (Ent prog):=⟨_,_,_,_,bmm⟩ :: a6g
theorem boc:Con prog 50 [ahf,ali,.agg [.v (.int .i64 1),.lst 1 [.v (.int .i64 2),.v (.int .i64 3)],.lst 1 [.v (.int .i64 1),.v (.int .i64 2),.v (.int .i64 3)],.v (.int .i64 0)]] [] (.tup [.v (.int .i64 2),.v .nilIface]) []:=aht ⟨orF a9q (aso (asj fb ahv ah1)),feG prog,as0⟩ 6000 (base:=2000) (av:=[]) (by kernel_rfl)
def a7b:List (Ent prog):=⟨_,_,_,_,boc⟩ :: a9q
theorem bli:Con prog 20 [ahf,.lst 4 [.agg [.v (.bool false),.v (.slice none 0 0),.v (.slice none 0 0),.v (.bool false)]],ali,.v (.int .i64 1)] [] (.tup [.v (.int .i64 2),.v .nilIface]) []:=aht ⟨orF a7b (aso (asj fb ahv ah1)),feG prog,as0⟩ 6000 (base:=2000) (av:=[]) (by kernel_rfl)
def bjw:List (Ent prog):=⟨_,_,_,_,bli⟩ :: a7b
theorem ap9:FnC prog 18 [] (bl true):=aht ⟨orF bjw (aso (asj fb ahv ah1)),feG prog,as0⟩ 6000 (base:=2000) (av:=[]) (by kernel_rfl)
end Go.Lw
namespace Go.Lw
open Go.Proofs
theorem bjx {l:Li} {a:As} (hg:Good l a) (hs:splitE l = 0) {k:Nat} (hk:k < (splitG l).length) :
  FnC prog 27 [ae2 a.rs,nA (aoa l a (gAt l k)),nA (aoa l a (gAt l k))] (bl true):=by
 obtain ⟨tw,hta,h5,hll⟩:=hg.tw
 obtain ⟨e,hn,he⟩:=am5 hg hs hk
 have hlm:=adm (llq a.rs).length
 have h:=ab8 tw hn hn (by omega)
 rw [bds] at h
 rw [hta]
 exact h
theorem a4t (l:Li) (hw:l.okw) (xs:List Tn) (hxw:∀ x ∈ xs, x.t.wok) (hxl:xs.length <= 281474976710656) (a:As) (ha:a.ok):FnC prog 5 [l.av, .lst 4 (xs.map Tn.av), a.av] (bl true):=by
 refine gF0 func5 ?_
 refine gc ap9 ?_ (1,4)
 first | (refine gs (abx rfl rfl rfl (fun h => aaa (.tmp rfl) rfl rfl T26 rfl rfl rfl)) ?_; trace "@@linkwork/linkworklaw30.SingularDets 1.3 aaa") | (refine go ?_; trace "@@linkwork/linkworklaw30.SingularDets 1.3 s_auto")
 refine gcG (fun _=>(ays l hw xs hxl)) ?_ (1,10)
 first | (refine gs (abx rfl rfl rfl (fun h => aaa (.tmp rfl) rfl rfl T34 rfl rfl rfl)) ?_; trace "@@linkwork/linkworklaw30.SingularDets 1.9 aaa") | (refine go ?_; trace "@@linkwork/linkworklaw30.SingularDets 1.9 s_auto")
 refine gcG (fun _=>(az3 a ha)) ?_
 refine gC (fun ht30=>?_) (fun ht30=>?_) (st2:=(3,1))
 ·refine gc ap9 ?_
  refine gE1 ?_
  first | rfl | (simp; done)
 ·obtain ⟨h1, h2⟩:=bpa ht30
  obtain ⟨h3,h4,h5⟩:=a60 h1
  rw [all_eq_true] at h5
  have hl:=bj1 h3 hw
  have hxs:∀ x ∈ xs,x.t.ok /\ Qb 1000 x.t.q:=fun x hx=>bnr (h5 x hx) (hxw x hx)
  have al:=bkm h2 ha
  first | (refine gs (aaa (.tmp rfl) rfl rfl T26 rfl rfl rfl) ?_ (3, 3); trace "@@linkwork/linkworklaw30.SingularDets 3.0 aaa") | (refine go ?_ (3, 3); trace "@@linkwork/linkworklaw30.SingularDets 3.0 s_auto")
  first | (refine gs (aaa (.tmp rfl) rfl rfl T34 rfl rfl rfl) ?_; trace "@@linkwork/linkworklaw30.SingularDets 3.2 aaa") | (refine go ?_; trace "@@linkwork/linkworklaw30.SingularDets 3.2 s_auto")
  refine gc (apr l hl xs hxs hxl a al) ?_ (4,1)
  first | (refine gs (aaa (.tmp rfl) rfl rfl T26 rfl rfl rfl) ?_ (4, 3); trace "@@linkwork/linkworklaw30.SingularDets 4.0 aaa") | (refine go ?_ (4, 3); trace "@@linkwork/linkworklaw30.SingularDets 4.0 s_auto")
  first | (refine gs (aaa (.tmp rfl) rfl rfl T34 rfl rfl rfl) ?_; trace "@@linkwork/linkworklaw30.SingularDets 4.2 aaa") | (refine go ?_; trace "@@linkwork/linkworklaw30.SingularDets 4.2 s_auto")
  refine gc (a7h l hl xs hxs hxl a al) ?_ (5,1)
  first | (refine gs (aaa (.tmp rfl) rfl rfl T26 rfl rfl rfl) ?_ (5, 3); trace "@@linkwork/linkworklaw30.SingularDets 5.0 aaa") | (refine go ?_ (5, 3); trace "@@linkwork/linkworklaw30.SingularDets 5.0 s_auto")
  first | (refine gs (aaa (.tmp rfl) rfl rfl T34 rfl rfl rfl) ?_; trace "@@linkwork/linkworklaw30.SingularDets 5.2 aaa") | (refine go ?_; trace "@@linkwork/linkworklaw30.SingularDets 5.2 s_auto")
  refine gc (azt l hl xs hxs hxl a al) ?_ (6,1)
  first | (refine gs (aaa (.tmp rfl) rfl rfl T26 rfl rfl rfl) ?_ (6, 3); trace "@@linkwork/linkworklaw30.SingularDets 6.0 aaa") | (refine go ?_ (6, 3); trace "@@linkwork/linkworklaw30.SingularDets 6.0 s_auto")
  first | (refine gs (aaa (.tmp rfl) rfl rfl T34 rfl rfl rfl) ?_; trace "@@linkwork/linkworklaw30.SingularDets 6.2 aaa") | (refine go ?_; trace "@@linkwork/linkworklaw30.SingularDets 6.2 s_auto")
  refine gc (a30 l hl xs hxs hxl a al) ?_
  refine gC (fun ht59=>?_) (fun ht59=>?_) (st1:=(8,2)) (st2:=(9,1))
  ·have h7:acE l xs a ≠ 0:=afz ht59
   rw [if_neg h7,if_neg h7,if_pos (Or.inl h7),if_pos h7]
   first | (refine go ?_; refine gl ?_ (8, 4); trace "@@linkwork/linkworklaw30.SingularDets 8.1 ajz") | (refine go ?_; refine ge rfl ?_ (8, 4); trace "@@linkwork/linkworklaw30.SingularDets 8.1 aga") | (refine go ?_ (8, 4); trace "@@linkwork/linkworklaw30.SingularDets 8.1 s_auto")
   first | (refine go ?_; refine gl ?_; trace "@@linkwork/linkworklaw30.SingularDets 8.3 ajz") | (refine go ?_; refine ge rfl ?_; trace "@@linkwork/linkworklaw30.SingularDets 8.3 aga") | (refine go ?_; trace "@@linkwork/linkworklaw30.SingularDets 8.3 s_auto")
   refine ga (adg (by decide) (by decide)) ?_
   refine ga (by rfl) ?_
   refine gcG (fun _=>(aj1 (acE l xs a))) ?_
   refine gcG (fun _=>(aj1 (acE l xs a))) ?_
   refine gcG (fun _=>(aj1 (acE l xs a))) ?_
   refine gE1 ?_
   simp [aab]; rfl
  ·have h7:acE l xs a = 0:=af1 ht59
   obtain ⟨g1,g2,g3,g4⟩:=bo1 h7
   have hg:=ao7 hl g1 al g4
   have hgl:=avt g1
   have hsl:=ax8 l a (splitG l).length
   rw [if_pos h7,if_pos h7,h7]
   first | (refine gs (aaa (.tmp rfl) rfl rfl T26 rfl rfl rfl) ?_ (9, 2); trace "@@linkwork/linkworklaw30.SingularDets 9.0 aaa") | (refine go ?_ (9, 2); trace "@@linkwork/linkworklaw30.SingularDets 9.0 s_auto")
   first | (refine gs (aaa (.tmp rfl) rfl rfl T34 rfl rfl rfl) ?_; trace "@@linkwork/linkworklaw30.SingularDets 9.1 aaa") | (refine go ?_; trace "@@linkwork/linkworklaw30.SingularDets 9.1 s_auto")
   refine gc (am8 hg g2) ?_ (10,9)
   first | (refine go ?_; refine glG ?_ (10, 11); trace "@@linkwork/linkworklaw30.SingularDets 10.8 ajz") | (refine go ?_; refine geG (fun _ => rfl) ?_ (10, 11); trace "@@linkwork/linkworklaw30.SingularDets 10.8 aga") | (refine go ?_ (10, 11); trace "@@linkwork/linkworklaw30.SingularDets 10.8 s_auto")
   first | (refine go ?_; refine glG ?_ (10, 16); trace "@@linkwork/linkworklaw30.SingularDets 10.10 ajz") | (refine go ?_; refine geG (fun _ => rfl) ?_ (10, 16); trace "@@linkwork/linkworklaw30.SingularDets 10.10 aga") | (refine go ?_ (10, 16); trace "@@linkwork/linkworklaw30.SingularDets 10.10 s_auto")
   first | (refine gs (abx rfl rfl rfl (fun h => aaa (.tmp rfl) rfl rfl T26 rfl rfl rfl)) ?_ (10, 17); trace "@@linkwork/linkworklaw30.SingularDets 10.15 aaa") | (refine go ?_ (10, 17); trace "@@linkwork/linkworklaw30.SingularDets 10.15 s_auto")
   first | (refine gs (abx rfl rfl rfl (fun h => aaa (.tmp rfl) rfl rfl T34 rfl rfl rfl)) ?_; trace "@@linkwork/linkworklaw30.SingularDets 10.16 aaa") | (refine go ?_; trace "@@linkwork/linkworklaw30.SingularDets 10.16 s_auto")
   refine gcG (fun _=>(bbt hg g2)) ?_
   refine gcG (fun _=>(awb (sgL l a (splitG l).length) (by omega))) ?_
   refine gC (fun ht109=>?_) (fun ht109=>?_) (st1:=(11,0)) (st2:=(12,2))
   ·exact absurd ht109 (by simp [aab,ago,ax7])
   ·first | (refine go ?_; refine gl ?_; trace "@@linkwork/linkworklaw30.SingularDets 12.1 ajz") | (refine go ?_; refine ge rfl ?_; trace "@@linkwork/linkworklaw30.SingularDets 12.1 aga") | (refine go ?_; trace "@@linkwork/linkworklaw30.SingularDets 12.1 s_auto")
    refine gL1 [3,5,7,14,11,12] [3,5] (fun (i:Nat)=>[(111,some (i64 (splitG l).length)),(112,some (i64 i))]) (fun _=>[]) (fun i=>i <= (splitG l).length) (fun i=>(splitG l).length - i) 0 (zero_le _) ?_ (h1:=(.cons rfl (Sub.int (congrArg Int.ofNat List.length_range)) (.k .nil)))
    rintro i hi K1 hK1
    refine gC (fun ht113=>?_) (fun ht113=>?_) (st1:=(15,2)) (st2:=(18,1))
    ·have hin:i < (splitG l).length:=aa4 ht113
     first | (refine gs (aaa (.tmp rfl) rfl rfl T30 rfl rfl rfl) ?_; trace "@@linkwork/linkworklaw30.SingularDets 15.1 aaa") | (refine go ?_; trace "@@linkwork/linkworklaw30.SingularDets 15.1 s_auto")
     refine gi (agu l a (i:=i) hin) ?_ (15,6)
     first | (refine gs (aaa (.tmp rfl) rfl rfl T65 rfl rfl rfl) ?_; trace "@@linkwork/linkworklaw30.SingularDets 15.5 aaa") | (refine go ?_; trace "@@linkwork/linkworklaw30.SingularDets 15.5 s_auto")
     refine gi (agu l a (i:=i) hin) ?_ (15,10)
     first | (refine gs (aaa (.tmp rfl) rfl rfl T65 rfl rfl rfl) ?_; trace "@@linkwork/linkworklaw30.SingularDets 15.9 aaa") | (refine go ?_; trace "@@linkwork/linkworklaw30.SingularDets 15.9 s_auto")
     refine gc (bjx (k:=i) hg g2 hin) ?_
     refine gD ?_
     refine gC (fun ht126=>?_) (fun ht126=>?_) (st1:=(16,0))
     ·cases ht126
     ·refine ga aao ?_
      exact gK1 hK1 (i + 1) hin
    ·first | (refine gs (aaa (.tmp rfl) rfl rfl T26 rfl rfl rfl) ?_ (18, 2); trace "@@linkwork/linkworklaw30.SingularDets 18.0 aaa") | (refine go ?_ (18, 2); trace "@@linkwork/linkworklaw30.SingularDets 18.0 s_auto")
     first | (refine gs (aaa (.tmp rfl) rfl rfl T34 rfl rfl rfl) ?_; trace "@@linkwork/linkworklaw30.SingularDets 18.1 aaa") | (refine go ?_; trace "@@linkwork/linkworklaw30.SingularDets 18.1 s_auto")
     refine gc (a4s hg g2) ?_
     refine gcG (fun _=>(aj1 (if (0:Nat) ≠ 0 then 0 else if (nrS l a (splitG l).length).1 < 0 then 16 else 0))) ?_
     refine gE1 ?_
     by_cases h9:(nrS l a (splitG l).length).1 < 0 <;> simp [aab,h9] <;> rfl
end Go.Lw
namespace Go.Lw
open Go.Proofs Go.Proofs.YtkmgmddcmmadjaaGreat
open Go.ChangeShapes Go.WideShapes Go.ChangeAt Go.RowKit
set_option maxRecDepth 100000 in
theorem ald (os:Os) (started:os.Started) (H:Type) (enc:TypeId × Value -> H) :
  ReturnsInHanded {} Tryz.checked os 5 .any (Rows.singularDetsSpec.pre6 enc prog Tryz.f5 Rows.singularDetsRow.domain false) (Rows.singularDetsSpec.post enc prog Tryz.f5 false true false false):=by
 refine returnsInHanded_of_change_sized (C := Tryz.checked) own started (by kernel_rfl) func5
  (ChangeSpec.witness6 (enc:=enc) (C:=Tryz.checked) false ⟨#[],#[.agg #[.string ⟨#[]⟩,.slice none 0 0,.slice none 0 0,.slice none 0 0],.slice none 0 0,.agg #[.slice none 0 0,.slice none 0 0,.slice none 0 0]],[]⟩ 8 (by kernel_rfl) (by kernel_rfl) (by kernel_rfl) (by kernel_rfl)) ?_
 intro W base args ds gs before hval0 hW hcnd hwt0 _
 have hval:∀ (j:Nat) t v,Tryz.f5.params[j]? = some t -> args[j]? = some v -> Value.okWide prog W .any base t v:=hval0
 have hwt:(DataW.weightsEach prog (Tryz.f5.params.toList ++ Rows.singularDetsSpec.plain.varTypes prog) (ds ++ gs)).all (· <= reachBytes) = true:=hwt0
 have hW':=hW
 obtain ⟨p,q,hA0,hV,rfl,hfz,hnd⟩:=hW
 have hA:DataW.TrodAll enc prog W 0 (fun _=>true) true Tryz.f5.params.toList args.toList ds p:=hA0
 rw [Tryz.params5] at hA hval hwt
 obtain ⟨v0,v1,v2,d0,d1,d2,p0,p1,p2,rfl,rfl,rfl,h0,h1,h2⟩:=trodAll_three hA
 obtain ⟨rfl,rfl⟩:=trodVars_none hV
 clear hA0 hval0 hwt0
 have hlt:∀ x ∈ p0 ++ p1 ++ p2,x.block < W.heap.size:=fun x hx=>hW'.lt x (by simpa using hx)
 have hw0:∀ n ∈ d0.weights prog 26, n <= reachBytes:=fun n hn=>by
  have:=List.all_eq_true.1 hwt n (DataW.weights_mem_each (j:=0) rfl rfl n hn)
  simpa using this
 have hw1:∀ n ∈ d1.weights prog 27, n <= reachBytes:=fun n hn=>by
  have:=List.all_eq_true.1 hwt n (DataW.weights_mem_each (j:=1) rfl rfl n hn)
  simpa using this
 have hw2:∀ n ∈ d2.weights prog 34, n <= reachBytes:=fun n hn=>by
  have:=List.all_eq_true.1 hwt n (DataW.weights_mem_each (j:=2) rfl rfl n hn)
  simpa using this
 obtain ⟨x0,q0,r0⟩:=a5v Tryz.underlying26 bhq (hval 0 26 v0 rfl rfl) h0 hw0
 obtain ⟨x1,q1,r1⟩:=bhh bbr (fun _=>rfl) (awf Tryz.underlying27 (hval 1 27 v1 rfl rfl)) h1 hw1
 obtain ⟨x2,q2,r2⟩:=a5v Tryz.underlying34 bn9 (hval 2 34 v2 rfl rfl) h2 hw2
 have hc:=FnC.calls (W:=W) (vs:=#[v0, v1, v2]) (a4t x0 q0 x1 q1.1 q1.2 x2 q2) rfl (fun j v x hv hx=>by
  match j,hv,hx with
  | 0,hv,hx=>cases hv; cases hx; exact r0
  | 1,hv,hx=>cases hv; cases hx; exact r1
  | 2,hv,hx=>cases hv; cases hx; exact r2)
 refine hc.mono fun e W' ⟨he,hb⟩=>?_
 subst he
 refine ⟨_,rfl,at9 hW' rfl rfl (fun _ _ _=>trodAll_mk1 (shut_bool Tryz.underlying4 _)) (fun sp hsp=>?_) rfl hb (ok_one (by kernel_rfl) rfl (okWide_bool_mk Tryz.underlying4 _))⟩
 rw [Tryz.params5]
 have hs:∀ x ∈ p0 ++ p1 ++ p2,sp x.block = true:=fun x hx=>hsp x (by simpa using hx)
 have g0:=ati (sp':=sp) (by kernel_rfl) (of_decide_eq_true (by kernel_rfl)) h0 hb (fun x hx=>hlt x (by simp [hx])) (fun x hx=>hs x (by simp [hx]))
 have g1:=ati (sp':=sp) (by kernel_rfl) (of_decide_eq_true (by kernel_rfl)) h1 hb (fun x hx=>hlt x (by simp [hx])) (fun x hx=>hs x (by simp [hx]))
 have g2:=ati (sp':=sp) (by kernel_rfl) (of_decide_eq_true (by kernel_rfl)) h2 hb (fun x hx=>hlt x (by simp [hx])) (fun x hx=>hs x (by simp [hx]))
 have g:=trodAll_mk3 g0 g1 g2
 rw [show p0 ++ p1 ++ p2 ++ [] = p0 ++ (p1 ++ p2) from by simp]
 exact g
set_option maxRecDepth 100000 in
theorem aot:prog.closure 5 = [5,18,29,60,129,189,269,324,377,263,266,265,326,381,327,272,262,325,378,383,380,330,379,329,328,382,395,331,30,61,80,155,65,138,222,290,291,358,139,212,273,228,232,297,294,298,360,361,318,362,363,359,364,365,230,221,220,274,227,231,140,223,224,292,143,226,296,141,240,300,366,389,368,392,393,391,301,367,390,370,369,302,156,241,130,179,131,62,64,137,144,145,229,293,295,136,142,225,120,180,201,202,63,132,213,214,134,133,82,158,178,96,181,121,203,204,205,206,122,123,69,159,252,308,160,254,319,253,309,315,376,310,371,311,372,373,312,374,375,394,313,314,316,317,161,95,215,275,334,258,384,396,397,276,162,173,94,86,164,166,165,256,56,320,255,321,257,322,171,167,170,277,177,259,91,168,197,174,87,288,357,388,88,169,85,335,278,216,84,163,175,279,336,385,337,281,280,338,349,350,351,40,339,386,172,352,347,343,353,344,340,341,342,387,345,346,348,286,355,356,282,289,217,90,92,283,218,93,176,89,284,354,285,287,135,219,23,22,49,81,157,243,244,303,304,57,245,242,247,248,305,306,307,196,246,250,251,249,55,39,83,20,50,112,113,14,7,33,34,71,147,235,234,236,72,148,182,260,261,323,267,73,149,150,237,192,210,264,188,268,332,183,74,35,75,151,76,152,238,153,239,299,154,36,77,19,37,78,79,24,12,42,97,43,98,110,194,207,125,195,271,208,209,211,190,126,127,184,124,99,108,59,128,118,200,109,101,27,58,185,47,100,186,198,199,53,48,111,52,187,119,106,105,44,104,102,193,191,270,333,103,13,25,45,51,114,115,116,117,107,26,28]:=by kernel_rfl
theorem ak1:joinedFacts prog 5 Tryz.f5 Rows.singularDetsSpec Rows.singularDetsRow = true:=by
 unfold joinedFacts Program.recurses Program.inPlace Program.unfollowed Program.varsNamed
 rw [aot,a97,bdc,bda,bjk,bc8,bdj]
 kernel_rfl
theorem singularDets_holds:Rows.SingularDetsSaid :=
 OpenClaim.holds_of_wide 5 Tryz.f5 rfl rfl rfl rfl rfl rfl rfl ⟨rfl, rfl, rfl, rfl, rfl⟩ rfl rfl rfl rfl rfl (by kernel_rfl) func5 ak1
  (of_decide_eq_true (by kernel_rfl)) (by unfold Func.isWrapper; first | (rw [if_pos (by decide +kernel)]; kernel_rfl) | (rw [if_neg (by decide +kernel)]; exact ⟨rfl,rfl⟩))
  (fun os started H enc _=>ald os started H enc)
end Go.Lw
namespace Go.Proofs.YtkmgmddcmmadjaaGreat
theorem singularDets_proved:Rows.SingularDetsSaid:=Go.Lw.singularDets_holds
end Go.Proofs.YtkmgmddcmmadjaaGreat
