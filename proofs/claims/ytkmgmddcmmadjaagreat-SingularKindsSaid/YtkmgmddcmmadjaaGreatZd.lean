/- SingularKinds: for any linkage, any turns, any assembly and any group the law returns true and leaves its arguments as they were. No other condition. Part 4 of 7: what the later parts need -/
import Derived.Test.YtkmgmddcmmadjaaGreatZc
set_option linter.unusedVariables false
open List (mem_of_getElem? mem_cons_of_mem mem_append mem_cons length_cons mem_cons_self getElem?_eq_none all_eq_true getElem?_take getElem?_eq_getElem drop_eq_nil_of_le nil_append map_append length_take take_of_length_le drop_zero take_length not_mem_nil length_map drop_drop map_take all_append map_replicate map_set)
open Nat (le_refl lt_of_lt_of_le lt_or_ge le_trans mul_le_mul_right mul_le_mul_left zero_le pow_add lt_of_le_of_lt)
open Bool (and_eq_true)
open Int (natAbs_natCast)
open Go.Proofs.Tryz
namespace Go.Lw
theorem bn7 {e:Nat} {q:Rat} (h:Qb e q):Cd q.den (2 ^ e) [q]:=by
 refine ⟨Nat.pos_of_ne_zero q.den_nz,fun p hp=>?_⟩
 rw [List.mem_singleton.1 hp]
 refine ⟨q.num,?_,Nat.le_of_lt h.1⟩
 have h0:((q.den:Int):Rat) ≠ 0:=by
  intro h0
  have:(q.den:Int) = 0:=Rat.intCast_eq_zero_iff.1 h0
  have:=q.den_nz; omega
 have h1:q = (q.num:Rat) / ((q.den:Int):Rat):=by
  rw [<- Rat.divInt_eq_div]; exact (Rat.num_divInt_den q).symm
 have h2:=Rat.div_mul_cancel (a:=(q.num:Rat)) h0
 rw [<- h1] at h2
 exact h2
theorem aun {e:Nat}:∀ {l:List Rat}, (∀ q ∈ l, Qb e q) -> ∃ D N, Cd D N l /\ D <= 2 ^ (e * l.length) /\ N <= 2 ^ (e * l.length + e)
 | [],_=>⟨1,1,Cd.nil (by omega),by simp,Nat.one_le_two_pow⟩
 | q :: l, h=>by
  obtain ⟨D,N,h1,h2,h3⟩:=aun (l:=l) (fun p hp=>h p (mem_cons_of_mem _ hp))
  have hq:=h q (mem_cons_self ..)
  have e1:e * (q :: l).length = e * l.length + e:=by rw [length_cons,Nat.mul_add,Nat.mul_one]
  have k1:=(h1.scale (Nat.pos_of_ne_zero q.den_nz))
  have k2:=((bn7 hq).scale h1.1)
  rw [Nat.mul_comm] at k2
  refine ⟨D * q.den,2 ^ (e * l.length + e + e),?_,?_,?_⟩
  ·refine (Cd.app (a:=[q]) (k2.mono ?_) (k1.mono ?_))
   ·refine le_trans (mul_le_mul_left _ h2) ?_
    rw [<- pow_add]; exact abf (by omega)
   ·refine le_trans (Nat.mul_le_mul h3 (Nat.le_of_lt hq.2)) ?_
    rw [<- pow_add]; exact le_refl _
  ·rw [e1,pow_add]; exact Nat.mul_le_mul h2 (Nat.le_of_lt hq.2)
  ·rw [e1]; exact le_refl _
def al8 (w m:Nat) (x:List Rt):Bool:=decide (x.length <= m) && x.all (fun r=>decide (r.num.length <= w /\ r.den.length <= w))
def aky (w m:Nat) (l:List (List Rt)):Bool:=l.all (al8 w m)
def aoe (rs xs:List (List Rt)):Bool :=
  if rs.length <= 1 \/ (5 < rs.length /\ rs.length <= 8) then aky 3 40 (rs ++ xs)
  else if rs.length = 2 then aky 1 40 (rs ++ xs) else if rs.length = 3 then aky 1 4 (rs ++ xs) else false
def aki (rs xs:List (List Rt)):Bool:=if rs.length = 2 then aky 2 40 (rs ++ xs) else aoe rs xs
def Rt.wok (r:Rt):Prop:=Ws r.num /\ Ws r.den
theorem Rt.wok.ok {r:Rt} {k:Nat} (h:r.wok) (hn:r.num.length <= k) (hd:r.den.length <= k) (hk:k <= 100):r.ok:=⟨h.1,h.2,by unfold lim; omega,by unfold lim; omega⟩
theorem Rt.ok.wok {r:Rt} (h:r.ok):r.wok:=⟨h.1,h.2.1⟩
def ane (l:List (List Rt)):Prop:=∀ x ∈ l,(∀ r ∈ x,r.wok) /\ x.length <= 281474976710656
theorem ane.app {a b:List (List Rt)} (ha:ane a) (hb:ane b):ane (a ++ b):=fun x hx=>by
 rcases List.mem_append.1 hx with h | h
 ·exact ha x h
 ·exact hb x h
theorem aum {w m:Nat} {x:List Rt} (h:al8 w m x = true) (hw:1 <= w) (hw3:w <= 3) (hok:∀ r ∈ x, r.wok):x.length <= m /\ (∀ q ∈ lq x, Qb (32 * w) q) /\ ∀ r ∈ x, r.ok:=by
 unfold al8 at h
 simp only [and_eq_true,decide_eq_true_eq,all_eq_true] at h
 have ho:∀ r ∈ x,r.ok:=fun r hr=>(hok r hr).ok (h.2 r hr).1 (h.2 r hr).2 (by omega)
 refine ⟨h.1,fun q hq=>?_,ho⟩
 obtain ⟨r,hr,rfl⟩:=List.mem_map.1 hq
 exact Rt.qb (ho r hr) hw (h.2 r hr).1 (h.2 r hr).2
theorem bdv {w m:Nat} {x:List Rt} (h:al8 w m x = true) (hw:1 <= w) (hw3:w <= 3) (hm:m <= 40) (hok:∀ r ∈ x, r.wok):NR x 4000:=by
 obtain ⟨h1,h2,ho⟩:=aum h hw hw3 hok
 obtain ⟨D,N,h3,h4,h5⟩:=aun h2
 have h6:(lq x).length <= 40:=by rw [length_map]; omega
 have h7:32 * w * (lq x).length <= 96 * 40:=Nat.mul_le_mul (by omega) h6
 obtain ⟨k,hk⟩:∃ k,k = 4000:=⟨_,rfl⟩
 rw [<- hk]
 exact ⟨ho,by omega,D,N,h3,le_trans h4 (abf (by omega)),le_trans h5 (abf (by omega))⟩
theorem a0t:∀ (rs:List (List Rt)) {m:Nat}, (∀ x ∈ rs, x.length <= m) -> (llq rs).flatten.length <= m * rs.length
 | [],_,_=>by simp
 | x :: rs, m, h=>by
  have h1:=a0t rs (fun y hy=>h y (mem_cons_of_mem _ hy))
  have h2:=h x (mem_cons_self ..)
  have:(llq (x :: rs)).flatten.length = x.length + (llq rs).flatten.length:=by simp [llq,lq]
  rw [this,length_cons,Nat.mul_add]; omega
theorem bcx {w m:Nat} {rs:List (List Rt)} (h:∀ x ∈ rs, al8 w m x = true) (hw:1 <= w) (hw3:w <= 3) (hm:m <= 40) (hl:rs.length <= 8) (h38:rs.length <= 3 \/ 5 < rs.length) (hok:ane rs):TR rs 40000:=by
 have hq:∀ q ∈ (llq rs).flatten, Qb (32 * w) q:=by
  intro q hq
  obtain ⟨y,hy,hq⟩:=List.mem_flatten.1 hq
  obtain ⟨x,hx,rfl⟩:=List.mem_map.1 hy
  exact (aum (h x hx) hw hw3 (hok x hx).1).2.1 q hq
 obtain ⟨D,N,h3,h4,h5⟩:=aun hq
 have h6:(llq rs).flatten.length <= 40 * 8:=by
  refine le_trans (a0t rs (m:=m) (fun x hx=>(aum (h x hx) hw hw3 (hok x hx).1).1)) ?_
  exact Nat.mul_le_mul hm hl
 have h7:32 * w * (llq rs).flatten.length <= 96 * (40 * 8):=Nat.mul_le_mul (by omega) h6
 obtain ⟨k,hk⟩:∃ k,k = 40000:=⟨_,rfl⟩
 rw [<- hk]
 refine ⟨fun d hd=>(aum (h d hd) hw hw3 (hok d hd).1).2.2,fun d hd=>(hok d hd).2,by omega,⟨D,N,h3.1,fun d hd=>h3.sub (fun q hq=>List.mem_flatten.2 ⟨d,hd,hq⟩),le_trans h4 (abf (by omega)),le_trans h5 (abf (by omega))⟩,by omega,h38⟩
structure Lt (rs xs:List (List Rt)):Prop where
  tr:TR rs 40000
  nr:∀ x ∈ xs,NR x 4000
  ll:rs.length <= 8
theorem ao2 {w m:Nat} {rs xs:List (List Rt)} (h:aky w m (rs ++ xs) = true) (hw:1 <= w) (hw3:w <= 3) (hm:m <= 40) (hl:rs.length <= 8) (h38:rs.length <= 3 \/ 5 < rs.length) (hr:ane rs) (hx:ane xs):Lt rs xs:=by
 unfold aky at h
 rw [all_eq_true] at h
 exact ⟨bcx (fun x hx=>h x (List.mem_append_left _ hx)) hw hw3 hm hl h38 hr,fun x hx'=>bdv (h x (List.mem_append_right _ hx')) hw hw3 hm (hx x hx').1,hl⟩
theorem bdy {rs xs:List (List Rt)} (h:aoe rs xs = true) (hr:ane rs) (hx:ane xs):Lt rs xs:=by
 unfold aoe at h
 split at h
 ·exact ao2 h (by omega) (by omega) (by omega) (by omega) (by omega) hr hx
 ·split at h
  ·exact ao2 h (by omega) (by omega) (by omega) (by omega) (by omega) hr hx
  ·split at h
   ·exact ao2 h (by omega) (by omega) (by omega) (by omega) (by omega) hr hx
   ·cases h
theorem azu {rs xs:List (List Rt)} (h:aki rs xs = true) (hr:ane rs) (hx:ane xs):Lt rs xs:=by
 unfold aki at h
 split at h
 ·exact ao2 h (by omega) (by omega) (by omega) (by omega) (by omega) hr hx
 ·exact bdy h hr hx
structure Pl where
  c:List Rt
  s:List Rt
  x:List Rt
  y:List Rt
instance:Inhabited Pl:=⟨⟨[],[],[],[]⟩⟩
def Pl.av (p:Pl):AV:=.agg [nR p.c,nR p.s,nR p.x,nR p.y]
def Pl.l (p:Pl):List (List Rt):=[p.c,p.s,p.x,p.y]
structure As where
  rs:List (List Rt)
  bs:List Pl
  ms:List Int
def As.av (a:As):AV:=.agg [.lst 1 (a.rs.map nR),.lst 4 (a.bs.map Pl.av),.lst 1 (a.ms.map i64)]
structure As.ok (a:As):Prop where
  rs:ane a.rs
  rl:a.rs.length <= 281474976710656
  bs:∀ b ∈ a.bs,ane b.l
  bl:a.bs.length <= 281474976710656
def asB (a:As):Bool :=
  a.bs.all (fun b=>aki a.rs b.l) && (decide (a.bs.length <= 20) && aki a.rs [] && decide (a.rs.length <= 2 \/ 5 < a.rs.length))
structure AL (a:As):Prop where
  tr:TR a.rs 40000
  nr:∀ b ∈ a.bs,∀ x ∈ b.l,NR x 4000
  ll:a.rs.length <= 8
  bl:a.bs.length <= 20
theorem bfi:ane []:=fun x hx=>by cases hx
theorem brk {a:As} (h:asB a = true) (hok:a.ok):AL a:=by
 unfold asB at h
 simp only [and_eq_true,decide_eq_true_eq,all_eq_true] at h
 obtain ⟨h1,⟨h2,h3⟩,h4⟩:=h
 have h5:=azu h3 hok.rs bfi
 exact ⟨h5.tr,fun b hb=>(azu (h1 b hb) hok.rs (hok.bs b hb)).nr,h5.ll,h2⟩
theorem aef {α:Type} {l:List α} {p:α -> Bool} {i:Nat} {x:α} (h:(l.take i).all p = true) (hx:l[i]? = some x) (hp:p x = true):(l.take (i + 1)).all p = true:=by
 rw [aao hx,all_append,h]; simp [hp]
theorem adg {α:Type} {l:List α} {p:α -> Bool} {i:Nat} {x:α} (hx:l[i]? = some x) (hp:p x = false):l.all p = false:=by
 refine Bool.eq_false_iff.2 (fun h=>?_)
 rw [all_eq_true] at h
 rw [h x (mem_of_getElem? hx)] at hp; cases hp
theorem af4 {α:Type} {l:List α} {p:α -> Bool} {i:Nat} (hi:i = l.length) (h:(l.take i).all p = true):l.all p = true:=by
 rw [hi,take_length] at h; exact h
structure Li.okw (l:Li):Prop where
  name:l.name.size <= 281474976710656
  pts:∀ b ∈ l.bodies,b.name.size <= 281474976710656 /\ b.pts.length <= 281474976710656 /\ ∀ m ∈ b.pts,m.name.size <= 281474976710656 /\ m.x.wok /\ m.y.wok
  jnames:∀ j ∈ l.joints,j.name.size <= 281474976710656
  dnames:∀ d ∈ l.drivers,d.name.size <= 281474976710656
  lb:l.bodies.length <= 281474976710656
  lj:l.joints.length <= 281474976710656
  ld:l.drivers.length <= 281474976710656
def mkB (m:Mk):Bool:=decide (m.x.num.length <= 4 /\ m.x.den.length <= 4 /\ m.y.num.length <= 4 /\ m.y.den.length <= 4)
def bdB (b:Bd):Bool:=decide (b.pts.length <= 30) && b.pts.all mkB
def liB (l:Li):Bool:=l.bodies.all bdB && decide (l.bodies.length <= 30 /\ l.joints.length <= 60 /\ l.drivers.length <= 30)
theorem bri {m:Mk} (h:mkB m = true) (hx':m.x.wok) (hy':m.y.wok):m.ok:=by
 unfold mkB at h
 rw [decide_eq_true_eq] at h
 have hx:=hx'.ok h.1 h.2.1 (by omega)
 have hy:=hy'.ok h.2.2.1 h.2.2.2 (by omega)
 exact ⟨hx,hy,(Rt.qb hx (k:=4) (by omega) h.1 h.2.1).mono (by omega),(Rt.qb hy (k:=4) (by omega) h.2.2.1 h.2.2.2).mono (by omega)⟩
theorem bin {l:Li} (h:liB l = true) (ho:l.okw):l.ok:=by
 unfold liB at h
 rw [and_eq_true,all_eq_true] at h
 refine ⟨ho.name,fun b hb=>?_,ho.jnames,ho.dnames,ho.lb,ho.lj,ho.ld⟩
 have h1:=h.1 b hb
 unfold bdB at h1
 rw [and_eq_true,all_eq_true] at h1
 obtain ⟨o1,o2,o3⟩:=ho.pts b hb
 exact ⟨fun m hm=>bri (h1.2 m hm) (o3 m hm).2.1 (o3 m hm).2.2,fun m hm=>(o3 m hm).1,o2,o1⟩
structure Pse.wok (p:Pse):Prop where
  t:p.turn.t.wok
  x:p.at_.x.wok
  y:p.at_.y.wok
theorem Pse.wok.rs {p:Pse} (h:p.wok):ane [[p.turn.t, p.at_.x], [p.at_.y]]:=by
 intro x hx
 simp only [mem_cons,not_mem_nil,or_false] at hx
 rcases hx with rfl | rfl
 ·refine ⟨fun r hr => ?_, by show 2 <= _; omega⟩
  simp only [mem_cons,not_mem_nil,or_false] at hr
  rcases hr with rfl | rfl
  ·exact h.t
  ·exact h.x
 ·refine ⟨fun r hr => ?_, by show 1 <= _; omega⟩
  simp only [mem_cons,not_mem_nil,or_false] at hr
  subst hr
  exact h.y
theorem blz {a b w:Nat} (h:cond (aaa .gtr (a:Int) (w:Int)) true (aaa .gtr (b:Int) (w:Int)) = true):¬ (a <= w /\ b <= w):=by
 simp only [aaa] at h
 by_cases h1:(w:Int) < a
 ·omega
 ·rw [decide_eq_false (by omega)] at h
  have:(w:Int) < b:=of_decide_eq_true h
  omega
theorem boc {a b w:Nat} (h:cond (aaa .gtr (a:Int) (w:Int)) true (aaa .gtr (b:Int) (w:Int)) = false):a <= w /\ b <= w:=by
 simp only [aaa] at h
 by_cases h1:(w:Int) < a
 ·rw [decide_eq_true (by omega)] at h; cases h
 ·rw [decide_eq_false (by omega)] at h
  have:¬ (w:Int) < b:=of_decide_eq_false h
  omega
theorem bor {n:Nat}:cond (aaa .leq (n:Int) 1) true (cond (aaa .gtr (n:Int) 5) (aaa .leq (n:Int) 8) false) = decide (n <= 1 \/ (5 < n /\ n <= 8)):=by
 have e1:aaa .leq (n:Int) 1 = decide (n <= 1):=decide_eq_decide.2 (by omega)
 have e2:aaa .gtr (n:Int) 5 = decide (5 < n):=decide_eq_decide.2 (by omega)
 have e3:aaa .leq (n:Int) 8 = decide (n <= 8):=decide_eq_decide.2 (by omega)
 rw [e1,e2,e3,Bool.eq_iff_iff,decide_eq_true_eq]
 by_cases h1:n <= 1
 ·rw [decide_eq_true h1]; exact ⟨fun _=>.inl h1,fun _=>rfl⟩
 ·rw [decide_eq_false h1]
  by_cases h2:5 < n
  ·rw [decide_eq_true h2]; exact ⟨fun h=>.inr ⟨h2,of_decide_eq_true h⟩,fun h=>decide_eq_true (by omega)⟩
  ·rw [decide_eq_false h2]; exact ⟨fun h=>(by cases h),fun h=>(by omega)⟩
theorem bq6 {n:Nat} (h:cond (aaa .leq (n:Int) 1) true (cond (aaa .gtr (n:Int) 5) (aaa .leq (n:Int) 8) false) = true):n <= 1 \/ (5 < n /\ n <= 8):=by
 rw [bor] at h; exact of_decide_eq_true h
theorem bp4 {n:Nat} (h:cond (aaa .leq (n:Int) 1) true (cond (aaa .gtr (n:Int) 5) (aaa .leq (n:Int) 8) false) = false):¬ (n <= 1 \/ (5 < n /\ n <= 8)):=by
 rw [bor] at h; exact of_decide_eq_false h
theorem a7k {n k:Nat}:aaa .leq (n:Int) (k:Int) = decide (n <= k):=by simp only [aaa]; exact decide_eq_decide.2 (by omega)
theorem ar5 {n k:Nat}:aaa .gtr (n:Int) (k:Int) = decide (k < n):=by simp only [aaa]; exact decide_eq_decide.2 (by omega)
theorem ahl (a b:Bool):cond a true b = (a || b):=by cases a <;> rfl
theorem bhd {l:Li} (h:l.bodies.all bdB = true) :
  cond (cond (aaa .leq (l.bodies.length:Int) 30) (aaa .leq (l.joints.length:Int) 60) false) (aaa .leq (l.drivers.length:Int) 30) false = liB l:=by
 unfold liB
 have e1:=a7k (n:=l.bodies.length) (k:=30)
 have e2:=a7k (n:=l.joints.length) (k:=60)
 have e3:=a7k (n:=l.drivers.length) (k:=30)
 rw [h,Bool.true_and,adf,adf]
 refine (congr (congrArg _ (congr (congrArg _ e1) e2)) e3).trans ?_
 rw [<- Bool.decide_and,<- Bool.decide_and]
 exact decide_eq_decide.2 ⟨fun h=>⟨h.1.1,h.1.2,h.2⟩,fun h=>⟨⟨h.1,h.2.1⟩,h.2.2⟩⟩
theorem bfz {m:Mk}:cond (cond (cond (aaa .gtr (m.x.num.length:Int) 4) true (aaa .gtr (m.x.den.length:Int) 4)) true (aaa .gtr (m.y.num.length:Int) 4)) true (aaa .gtr (m.y.den.length:Int) 4) = !mkB m:=by
 unfold mkB
 have e1:=ar5 (n:=m.x.num.length) (k:=4)
 have e2:=ar5 (n:=m.x.den.length) (k:=4)
 have e3:=ar5 (n:=m.y.num.length) (k:=4)
 have e4:=ar5 (n:=m.y.den.length) (k:=4)
 rw [ahl,ahl,ahl]
 refine (congr (congrArg _ (congr (congrArg _ (congr (congrArg _ e1) e2)) e3)) e4).trans ?_
 rw [<- Bool.decide_or,<- Bool.decide_or,<- Bool.decide_or,<- decide_not]
 exact decide_eq_decide.2 (by omega)
theorem bmf {m:Mk} (h:cond (cond (cond (aaa .gtr (m.x.num.length:Int) 4) true (aaa .gtr (m.x.den.length:Int) 4)) true (aaa .gtr (m.y.num.length:Int) 4)) true (aaa .gtr (m.y.den.length:Int) 4) = true):mkB m = false:=by
 rw [bfz] at h; exact adh h
theorem bnm {m:Mk} (h:cond (cond (cond (aaa .gtr (m.x.num.length:Int) 4) true (aaa .gtr (m.x.den.length:Int) 4)) true (aaa .gtr (m.y.num.length:Int) 4)) true (aaa .gtr (m.y.den.length:Int) 4) = false):mkB m = true:=by
 rw [bfz] at h; exact adi h
end Go.Lw
namespace Go.Lw
open Go.Proofs
theorem bdc {m:List Nat} {n:Nat} (hm:Ws m) (hn:n <= m.length) (hv:val (m.take n) = val m) (h0:n ≠ 0) (hw:aab m (n - 1) ≠ 0) :
  AV.fz 24 1 ([] ++ ((m.map u32).drop 0).take (n - 0)) (.ms 24 1 0 (0 + (((m.map u32).drop 0).take (n - 0)).length)) = ws (ofNat (val m)):=by
 have h1:m.take n = ofNat (val m):=by
  refine a1k (fun x hx=>hm x (List.mem_of_mem_take hx)) ?_ hv
  intro x hx
  rw [List.getLast?_eq_getElem?,length_take,Nat.min_eq_left hn,getElem?_take,if_pos (by omega),ad0 (by omega)] at hx
  cases hx; exact hw
 rw [bd9 (by simp),<- h1,ws]
 simp [map_take,Nat.min_eq_left hn,List.take_take]
theorem a8h (b:Bool) (n:Nat):AV.agg [bl (bif b then aaa BinOp.gtr (↑(ofNat n).length) 0 else false), ws (ofNat n)] = zA (sgn b n):=by
 have h1:(sgn b n).natAbs = n:=by unfold sgn; split <;> omega
 unfold zA ofInt Wh.av
 dsimp only
 rw [h1]
 congr 3
 have h2:(ofNat n).length = 0 ↔ n = 0:=by
  rw [List.length_eq_zero_iff]
  constructor
  ·intro h; have:=aak n; rw [h] at this; exact this.symm
  ·intro h; rw [h]; rfl
 cases b with
 | false=>simp [sgn]
 | true=>simp [sgn,aaa]; omega
theorem ar9 (m:List Nat) (i:Nat) (hm:Ws m):FnC prog 359 [ws m, i64 i] (u64 (aab m i)):=by
 refine gF0 func359 ?_
 refine gl ?_
 refine gC (fun ht8=>?_) (fun ht8=>?_)
 ·simp [aaa] at ht8
  have:=aam hm i
  refine gi (aho (i:=i) ht8) ?_
  refine gv (u64_in (by omega)) ?_
  refine gE1 ?_
  rfl
 ·simp [aaa] at ht8
  refine gE1 ?_
  simp [u64,ajw ht8]
theorem al0 (m:List Nat) (hm:Ws m) (hb:m.length <= big):FnC prog 298 [ws m] (ws (ofNat (val m))):=by
 refine gF0 func298 ?_ (0,0)
 refine boi (t:=0) rfl (fun hl=>?_)
 refine go ?_
 refine gl ?_
 refine gL1 [0] [] (fun (n:Nat)=>[(3,some (i64 n))]) (fun _=>[]) (fun n=>n <= m.length /\ val (m.take n) = val m) (fun n=>n) m.length ⟨le_refl _,by rw [take_length]⟩ ?_
 rintro n ⟨hn,hv⟩ K1 hK1
 refine gaG (fun h=>(ady (by simp [aaa] at h; omega) (by omega))) ?_
 refine giG (fun h=>(aho (i:=n - 1) (by simp [aaa] at h; omega))) ?_
 refine gC (fun ht15=>?_) (fun ht15=>?_)
 ·have ht15 : 0 < n /\ aab m (n - 1) = 0 := by simpa [aaa] using ht15
  refine ga (ady (by omega) (by omega)) ?_
  exact gK1 hK1 (n - 1) ⟨by omega,by have h:=@aag m (n - 1); rw [show n - 1 + 1 = n by omega,ht15.2] at h; simp at h; omega⟩
 ·have ht15 : 0 < n -> aab m (n - 1) ≠ 0 := by simpa [aaa] using ht15
  refine gC (fun ht19=>?_) (fun ht19=>?_)
  ·have h0 : n = 0 := by simpa [aaa] using ht19
   subst h0
   refine gR ?_
   exact adc (by rw [show val m = 0 from hv.symm.trans rfl]; exact Sub.nil _ _ _)
  ·have h0 : n ≠ 0 := by simpa [aaa] using ht19
   refine gs (acw T68 rfl T231 rfl rfl rfl) ?_
   refine gs (aaq (.tmp rfl) (.none _) (.some _ (.tmp rfl) (by omega)) T68 rfl T231 rfl (by omega) (by simp; omega) rfl) ?_
   refine gs (abu (.tmp rfl) rfl rfl (.tmp rfl) T68 rfl T231 rfl rfl (by unfold big at hb; simp only [length_take,List.length_drop,length_map]; omega) rfl rfl) ?_ (77777,0)
   refine gW (Wk.freeze (k:=24) rfl) ?_
   refine go ?_
   refine gR ?_
   exact a9z (bdc hm hn hv h0 (ht15 (by omega)))
theorem aey (w:Wh) (h:w.ok):FnC prog 273 [w.av] (bl w.valid):=by
 have hl:w.mag.length <= acr:=h.2
 refine gF0 func273 ?_
 refine gl ?_
 refine gC (fun ht6=>?_) (fun ht6=>?_)
 ·have h0 : w.mag = [] := by simpa [aaa] using ht6
  refine gE1 ?_
  simp [bl,Wh.valid,h0]
 ·have h0 : w.mag.length ≠ 0 := by simpa [aaa] using ht6
  refine gl ?_
  refine ga (ady (by omega) (by omega)) ?_
  refine gi (aho (i:=w.mag.length - 1) (by omega)) ?_
  refine gE1 ?_
  have h1:w.mag ≠ []:=fun h=>h0 (by rw [h]; rfl)
  simp only [bl,Wh.valid,if_neg h1,List.getLast?_eq_getElem?,ad0 (show w.mag.length - 1 < w.mag.length by omega),aaa]
  congr 2
  generalize aab w.mag _ = x
  rw [Bool.eq_iff_iff]; simp
theorem abl (w:Wh) (h:w.ok):FnC prog 232 [w.av] (ws w.m):=by
 refine gF0 func232 ?_
 refine gc (aey w h) ?_
 refine gC (fun ht5=>?_) (fun ht5=>?_)
 ·have h0 : w.valid = false := by simpa [aaa] using ht5
  refine gR ?_
  exact adc (by rw [show w.m = [] by simp [Wh.m,h0]]; exact Sub.nil _ _ _)
 ·have h0 : w.valid = true := by simpa [aaa] using ht5
  refine gE1 ?_
  simp only [Wh.m,h0]; rfl
theorem aa9 (w:Wh) (h:w.ok):FnC prog 231 [w.av] (bl w.n):=by
 refine gF0 func231 ?_
 refine gc (aey w h) ?_
 refine gE1 ?_
 simp only [Wh.n,bl]; cases w.valid <;> rfl
theorem aa4 (b:Bool) (m:List Nat) (hm:Ws m) (hb:m.length <= big):FnC prog 230 [bl b, ws m] (zA (sgn b (val m))):=by
 refine gF0 func230 ?_
 refine gc (al0 m hm hb) ?_
 refine glG ?_
 refine gE1 ?_
 exact a8h b (val m)
theorem afd (a b:List Nat) (ha:Ws a) (hb:Ws b) (na:Nz a) (nb:Nz b):FnC prog 294 [ws a, ws b] (i64 (if val a < val b then -1 else if val b < val a then 1 else 0)):=by
 refine gF0 func294 ?_ (0,0)
 refine boi (t:=0) rfl (fun hla=>?_)
 refine boi (t:=1) rfl (fun hlb=>?_)
 unfold acr at hla hlb
 refine go ?_
 refine gl ?_
 refine gl ?_
 refine gC (fun ht10=>?_) (fun ht10=>?_)
 ·have h0 : a.length ≠ b.length := by simpa [aaa, Int.ofNat_inj] using ht10
  refine gl ?_
  refine gl ?_
  refine gC (fun ht15=>?_) (fun ht15=>?_)
  ·have h1 : a.length < b.length := by simpa [aaa] using ht15
   have h2:=agt ha nb h1
   refine gE1 ?_
   simp [i64,h2]
  ·have h1 : b.length <= a.length := by simpa [aaa] using ht15
   have h2:=agt hb na (show b.length < a.length by omega)
   refine gE1 ?_
   simp [i64,h2,Nat.lt_asymm h2]
 ·have h0 : a.length = b.length := by simpa [aaa, Int.ofNat_inj] using ht10
  refine gl ?_
  refine ga (abc (by omega)) ?_
  refine gL1 [0,1] [] (fun (n:Nat)=>[(5,some (i64 ((n:Int) - 1)))]) (fun _=>[]) (fun n=>n <= a.length /\ a.drop n = b.drop n) (fun n=>n) a.length ⟨le_refl _,by rw [List.drop_length,h0,List.drop_length]⟩ ?_ (h1:=(.cons rfl (Sub.int rfl) .nil))
  rintro n ⟨hn,hd⟩ K1 hK1
  refine gC (fun ht20=>?_) (fun ht20=>?_)
  ·have hn0 : 1 <= n := by have := ht20; simp [aaa] at this; omega
   refine gi (awb (n:=n - 1) (by omega) (by first | omega | (simp; omega))) ?_
   refine gi (awb (n:=n - 1) (by omega) (by first | omega | (simp; omega))) ?_
   refine gD ?_
   refine gC (fun ht31=>?_) (fun ht31=>?_)
   ·have h3 : aab a (n - 1) ≠ aab b (n - 1) := by simpa [aaa, Int.ofNat_inj] using ht31
    refine gi (awb (n:=n - 1) (by omega) (by first | omega | (simp; omega))) ?_
    refine gi (awb (n:=n - 1) (by omega) (by first | omega | (simp; omega))) ?_
    refine gD ?_
    refine gC (fun ht40=>?_) (fun ht40=>?_)
    ·have h4 : aab a (n - 1) < aab b (n - 1) := by simpa [aaa] using ht40
     have h5:=aqh ha h0 (by omega) (by rw [Nat.sub_add_cancel hn0]; exact hd) h4
     refine gE1 ?_
     simp [i64,h5]
    ·have h4 : aab b (n - 1) < aab a (n - 1) := by have : aab b (n - 1) <= aab a (n - 1) := (by simpa [aaa] using ht40); omega
     have h5:=aqh hb h0.symm (by omega) (by rw [Nat.sub_add_cancel hn0]; exact hd.symm) h4
     refine gE1 ?_
     simp [i64,h5,Nat.lt_asymm h5]
   ·have h3 : aab a (n - 1) = aab b (n - 1) := by simpa [aaa, Int.ofNat_inj] using ht31
    refine ga (abc (by omega)) ?_
    exact gK1 hK1 (n - 1) ⟨by omega,by rw [List.drop_eq_getElem_cons (show n - 1 < a.length by omega),List.drop_eq_getElem_cons (show n - 1 < b.length by omega),Nat.sub_add_cancel hn0,hd]; congr 1; exact aqg (by omega) (by omega) h3⟩
  ·have hn0 : n = 0 := by have := ht20; simp [aaa] at this; omega
   subst hn0
   refine gE1 ?_
   simp at hd; simp [i64,hd]
theorem akp (a b:List Nat) (ha:Ws a) (hb:Ws b) (la:a.length < big) (lb:b.length < big):FnC prog 293 [ws a, ws b] (ws (ofNat (val a + val b))):=by
 unfold big at la lb
 obtain ⟨n,hn⟩:∃ n,n = max a.length b.length + 1:=⟨_,rfl⟩
 refine gF0 func293 ?_
 refine gl ?_
 refine gl ?_
 refine gs (a27 (.tmp rfl) (.tmp rfl) rfl) ?_
 refine ga (show _ = (n:Int) by rw [aa1 (by omega)]; omega) ?_
 refine gs (agv (.tmp rfl) T68 rfl T231 rfl rfl (by omega) (by dsimp only; omega) rfl) ?_
 refine gL3 [0,1,16] [] (fun (out:List Nat) (c i:Nat)=>[(5,some (.ms 14 1 0 n)),(6,some (u64 c)),(17,some (i64 i))]) (fun out _ _=>[(14,some (.row 1 (out.map u32)))]) (fun out c i=>out.length = n /\ i <= n /\ Ws out /\ c <= 1 /\ val (out.take i) + c * 4294967296 ^ i = val (a.take i) + val (b.take i)) (fun _ _ i=>n - i) (List.replicate n 0) 0 0 ⟨by simp,by omega,akt n,by omega,by simp [val]⟩ ?_ (h2:=(.cons rfl (BlkSub.of (by rw [map_replicate]; rfl)) .nil))
 rintro out c i ⟨ho,hi,hw,hc,hv⟩ K1 hK1
 refine gC (fun ht18=>?_) (fun ht18=>?_) (st2:=(10,0))
 ·have hin : i < n := by simpa [aaa] using ht18
  have h1:=aam ha i
  have h2:=aam hb i
  refine gc (by apply ar9 <;> assumption) ?_
  refine gc (by apply ar9 <;> assumption) ?_
  refine ga (ae1 (by omega)) ?_
  refine ga (ae1 (by omega)) ?_
  refine gv (aa7 _) ?_
  refine gs (aap (n:=i) (.tmp rfl) (.tmp rfl) T68 rfl T231 rfl (by omega) (by first | omega | (simp; omega)) rfl) ?_
  refine gs (abh (.tmp rfl) rfl (aho (i:=i) (by omega)) rfl (.tmp rfl) rfl rfl T231 rfl rfl) ?_
  refine gs (adn (.tmp rfl) (.const _) (by omega) (adp _ 32 (by omega)) rfl) ?_
  refine ga (aa1 (by omega)) ?_
  exact gK3 hK1 (out.set i ((c + (aab a i + aab b i)) % 4294967296)) ((c + (aab a i + aab b i)) / 4294967296) (i + 1) ⟨by simp [ho],by omega,ae6 hw (by omega),by omega,by rw [ab6 (by omega),aag,aag,Nat.pow_succ]; exact apa hv⟩ (hw:=Wk.of ab0 (.cons rfl (BlkSub.of (by rw [map_set]; rfl)) .nil))
 ·have hin : i = n := by have : n <= i := (by simpa [aaa] using ht18); omega
  refine gW ((Wk.freeze (k:=14) rfl).trans <| Wk.of (sl:=[(5,some (ws out))]) (hp:=[]) (.cons rfl (Sub.of (ab8 (by simp [ho]))) .nil) .nil) ?_
  refine gc (al0 out hw (by unfold big; omega)) ?_
  refine gE1 ?_
  rw [a2f ha hb hn ho (hin ▸ hv)]
theorem ahb (a b:List Nat) (ha:Ws a) (hb:Ws b) (la:a.length <= big) (lb:b.length <= a.length) (hle:val b <= val a):FnC prog 295 [ws a, ws b] (ws (ofNat (val a - val b))):=by
 have la':=la
 unfold big at la
 obtain ⟨n,hn⟩:∃ n,n = a.length:=⟨_,rfl⟩
 refine gF0 func295 ?_
 refine gl ?_
 refine gs (agv (.tmp rfl) T68 rfl T231 rfl rfl (by omega) (by dsimp only; omega) rfl) ?_
 refine gL3 [0,1,13] [] (fun (out:List Nat) (c i:Nat)=>[(5,some (.ms 11 1 0 a.length)),(6,some (u64 c)),(14,some (i64 i))]) (fun out _ _=>[(11,some (.row 1 (out.map u32)))]) (fun out c i=>out.length = a.length /\ i <= a.length /\ Ws out /\ c <= 1 /\ val (out.take i) + val (b.take i) = val (a.take i) + c * 4294967296 ^ i) (fun _ _ i=>a.length - i) (List.replicate a.length 0) 0 0 ⟨by simp,by omega,akt _,by omega,by simp [val]⟩ ?_ (h2:=(.cons rfl (BlkSub.of (by rw [map_replicate]; rfl)) .nil))
 rintro out c i ⟨ho,hi,hw,hc,hv⟩ K1 hK1
 refine gC (fun ht15=>?_) (fun ht15=>?_) (st2:=(10,0))
 ·have hin : i < a.length := by simpa [aaa] using ht15
  have h1:=aam ha i
  have h2:=aam hb i
  have h3:=avg h1 h2 hc hv
  obtain ⟨d,hd⟩:∃ d,d = if aab b i + c <= aab a i then aab a i - aab b i - c else aab a i + 18446744073709551616 - aab b i - c:=⟨_,rfl⟩
  rw [<- hd] at h3
  have hd1:d < 18446744073709551616:=by rw [hd]; split <;> omega
  refine gi (awb (n:=i) (by omega) (by first | omega | (simp; omega))) ?_
  refine gv (u64_in (by omega)) ?_
  refine gc (by apply ar9 <;> assumption) ?_
  refine ga (agp (by omega) (by omega)) ?_
  refine ga (show _ = (d:Int) by rw [agp (by split <;> omega) (by omega),hd]; congr 1; (repeat' split) <;> omega) ?_
  refine gD ?_
  refine gv (aa7 _) ?_
  refine gs (aap (n:=i) (.tmp rfl) (.tmp rfl) T68 rfl T231 rfl (by omega) (by first | omega | (simp; omega)) rfl) ?_
  refine gs (abh (.tmp rfl) rfl (aho (i:=i) (by omega)) rfl (.tmp rfl) rfl rfl T231 rfl rfl) ?_
  refine gs (adn (.tmp rfl) (.const _) (by omega) (adp _ 63 (by omega)) rfl) ?_
  refine ga (aa1 (by omega)) ?_
  exact gK3 hK1 (out.set i (d % 4294967296)) (d / 2 ^ 63) (i + 1) ⟨by simp [ho],by omega,ae6 hw (by omega),by omega,by rw [ab6 (by omega),aag,aag,Nat.pow_succ]; exact h3⟩ (hw:=Wk.of ab0 (.cons rfl (BlkSub.of (by rw [map_set]; rfl)) .nil))
 ·have hin : i = a.length := by have : a.length <= i := (by simpa [aaa] using ht15); omega
  refine gW ((Wk.freeze (k:=11) rfl).trans <| Wk.of (sl:=[(5,some (ws out))]) (hp:=[]) (.cons rfl (Sub.of (ab8 (by simp [ho]))) .nil) .nil) ?_
  refine gc (al0 out hw (by rw [ho]; exact la')) ?_
  refine gE1 ?_
  rw [bdk hw ho hle lb (hin ▸ hv)]
end Go.Lw
namespace Go.Lw
open Go.Proofs
theorem aqn (a b:List Nat) (ha:Ws a) (hb:Ws b) (la:a.length + b.length <= big):FnC prog 296 [ws a, ws b] (ws (ofNat (val a * val b))):=by
 have la':=la
 unfold big at la
 refine gF0 func296 ?_
 refine gl ?_
 refine gl ?_
 refine ga (ad1 (by unfold acr; omega) (by unfold acr; omega)) ?_
 refine gs (agv (.tmp rfl) T68 rfl T231 rfl rfl (by omega) (by dsimp only; omega) rfl) ?_
 refine gl ?_
 refine gL2 [0,1,17,18] [] (fun (out:List Nat) (i:Nat)=>[(5,some (.ms 16 1 0 (a.length + b.length))),(19,some (i64 i))]) (fun out _=>[(16,some (.row 1 (out.map u32)))]) (fun out i=>out.length = a.length + b.length /\ i <= a.length /\ Ws out /\ val (out.take (i + b.length)) = val (a.take i) * val b) (fun _ i=>a.length - i) (List.replicate (a.length + b.length) 0) 0 ⟨by simp,by omega,akt _,by simp [val,al5]⟩ ?_ (h2:=(.cons rfl (BlkSub.of (by rw [map_replicate]; rfl)) .nil))
 rintro out i ⟨ho,hi,hw,hv⟩ K1 hK1
 refine gC (fun ht20=>?_) (fun ht20=>?_) (st2:=(15,0))
 ·have hin : i < a.length := by simpa [aaa] using ht20
  have h1:=aam ha i
  refine gi (awb (n:=i) (by omega) (by first | omega | (simp; omega))) ?_
  refine gl ?_
  refine gL3 [0,1,17,18,19,6,7,24,25] [] (fun (o:List Nat) (c k:Nat)=>[(5,some (.ms 16 1 0 (a.length + b.length))),(8,some (u64 c)),(26,some (i64 k))]) (fun o _ _=>[(16,some (.row 1 (o.map u32)))]) (fun o c k=>o.length = a.length + b.length /\ k <= b.length /\ Ws o /\ c < 4294967296 /\ val (o.take (i + b.length)) + c * 4294967296 ^ (i + k) = val (out.take (i + b.length)) + 4294967296 ^ i * (aab a i * val (b.take k))) (fun _ _ k=>b.length - k) out 0 0 ⟨ho,by omega,hw,by omega,by simp [val]⟩ ?_
  rintro o c k ⟨ho2,hk,hw2,hc,hv2⟩ K2 hK2
  refine gC (fun ht27=>?_) (fun ht27=>?_)
  ·have hkn : k < b.length := by simpa [aaa] using ht27
   have h2:=aam hb k
   have h3:=aam hw2 (i + k)
   have h4:=aox h1 h2
   have h5:=asr (x:=(c + (aab a i * aab b k + aab o (i + k))) % 4294967296) (show i + k < o.length by omega) (show i + k < i + b.length by omega)
   have h6:=a0m h5 rfl hv2
   refine gi (awb (n:=k) (by omega) (by first | omega | (simp; omega))) ?_
   refine gv (u64_in (by omega)) ?_
   refine gv (u64_in (by omega)) ?_
   refine ga (aua (by omega)) ?_
   refine ga (ad1 (by unfold acr; omega) (by unfold acr; omega)) ?_
   refine gs (aap (n:=i + k) (.tmp rfl) (.tmp rfl) T68 rfl T231 rfl (by omega) (by first | omega | (simp; omega)) rfl) ?_
   refine gs (aau (.tmp rfl) rfl (aho (i:=i + k) (by omega)) T231 rfl rfl rfl) ?_
   refine gv (u64_in (by omega)) ?_
   refine ga (ae1 (by omega)) ?_
   refine ga (ae1 (by omega)) ?_
   refine ga (ad1 (by unfold acr; omega) (by unfold acr; omega)) ?_
   refine gv (aa7 _) ?_
   refine gs (aap (n:=i + k) (.tmp rfl) (.tmp rfl) T68 rfl T231 rfl (by omega) (by first | omega | (simp; omega)) rfl) ?_
   refine gs (abh (.tmp rfl) rfl (aho (i:=i + k) (by omega)) rfl (.tmp rfl) rfl rfl T231 rfl rfl) ?_
   refine gs (adn (.tmp rfl) (.const _) (by omega) (adp _ 32 (by omega)) rfl) ?_
   refine ga (aa1 (by omega)) ?_
   exact gK3 hK2 (o.set (i + k) ((c + (aab a i * aab b k + aab o (i + k))) % 4294967296)) ((c + (aab a i * aab b k + aab o (i + k))) / 4294967296) (k + 1) ⟨by simp [ho2],by omega,ae6 hw2 (by omega),by omega,by rw [show i + (k + 1) = (i + k) + 1 from rfl,Nat.pow_succ,h6,aag]; simp only [pow_add]; grind⟩ (hw:=Wk.of ab0 (.cons rfl (BlkSub.of (by rw [map_set]; rfl)) .nil))
  ·have hkn : k = b.length := by have : b.length <= k := (by simpa [aaa] using ht27); omega
   subst hkn
   have h5:=ab6 (x:=c) (show i + b.length < o.length by omega)
   rw [take_length] at hv2
   refine gl ?_
   refine ga (ad1 (by unfold acr; omega) (by unfold acr; omega)) ?_
   refine gv ((aa7 c).trans (by rw [Nat.mod_eq_of_lt hc])) ?_
   refine gs (aap (n:=i + b.length) (.tmp rfl) (.tmp rfl) T68 rfl T231 rfl (by omega) (by first | omega | (simp; omega)) rfl) ?_
   refine gs (abh (.tmp rfl) rfl (aho (i:=i + b.length) (by omega)) rfl (.tmp rfl) rfl rfl T231 rfl rfl) ?_
   refine ga (aa1 (by omega)) ?_
   exact gK2 hK1 (o.set (i + b.length) c) (i + 1) ⟨by simp [ho2],by omega,ae6 hw2 hc,by rw [show i + 1 + b.length = i + b.length + 1 by omega,h5,aag]; simp only [pow_add] at *; grind⟩ (hw:=Wk.of ab0 (.cons rfl (BlkSub.of (by rw [map_set]; rfl)) .nil))
 ·have hin : i = a.length := by have : a.length <= i := (by simpa [aaa] using ht20); omega
  subst hin
  rw [take_length,aav (by omega)] at hv
  refine gW ((Wk.freeze (k:=16) rfl).trans <| Wk.of (sl:=[(5,some (ws out))]) (hp:=[]) (.cons rfl (Sub.of (ab8 (by simp [ho]))) .nil) .nil) ?_
  refine gc (al0 out hw (by omega)) ?_
  refine gE1 ?_
  rw [hv]
theorem aqr (a:List Nat) (w:Nat) (ha:Ws a) (la:a.length <= big) (hw0:0 < w) (hwB:w < 4294967296):FnC prog 360 [ws a, u32 w] (.tup [ws (ofNat (val a / w)), u32 (val a % w)]):=by
 have la':=la
 unfold big at la
 refine gF0 func360 ?_
 refine gl ?_
 refine gs (agv (.tmp rfl) T68 rfl T231 rfl rfl (by omega) (by dsimp only; omega) rfl) ?_
 refine gl ?_
 refine ga (abc (by omega)) ?_
 refine gL3 [0,1] [] (fun (out:List Nat) (r i:Nat)=>[(6,some (.ms 11 1 0 a.length)),(7,some (u64 r)),(8,some (i64 ((i:Int) - 1)))]) (fun out _ _=>[(11,some (.row 1 (out.map u32)))]) (fun out r i=>out.length = a.length /\ i <= a.length /\ Ws out /\ r < w /\ val (a.drop i) = w * val (out.drop i) + r) (fun _ _ i=>i) (List.replicate a.length 0) 0 a.length ⟨by simp,by omega,akt _,by omega,by simp [val]⟩ ?_ (h2:=(.cons rfl (BlkSub.of (by rw [map_replicate]; rfl)) .nil))
 rintro out r i ⟨ho,hi,hw,hr,hv⟩ K1 hK1
 refine gC (fun ht16=>?_) (fun ht16=>?_) (st2:=(9,0))
 ·have hn0 : 1 <= i := by have := ht16; simp [aaa] at this; omega
  obtain ⟨k,rfl⟩:∃ k,i = k + 1:=⟨i - 1,by omega⟩
  have h1:=aam ha k
  have h2:=bds hr h1
  refine gs (ag5 (.tmp rfl) (.const _) (by omega) (am8 (n:=32) (by omega) (by omega)) rfl) ?_
  refine gi (awb (n:=k) (by omega) (by first | omega | (simp; omega))) ?_
  refine gv (u64_in (by omega)) ?_
  refine gs (afg (.tmp rfl) (.tmp rfl) rfl ((ah3 (by omega) (by omega)).trans (by rw [avt (by omega)])) rfl) ?_
  refine gv (u64_in (by omega)) ?_
  refine gs (aee (.tmp rfl) (.tmp rfl) (by omega) (a96 (by omega)) rfl) ?_
  refine gv ((aa7 _).trans (by rw [Nat.mod_eq_of_lt h2])) ?_
  refine gs (aap (n:=k) (.tmp rfl) (.tmp rfl) T68 rfl T231 rfl (by omega) (by first | omega | (simp; omega)) rfl) ?_
  refine gs (abh (.tmp rfl) rfl (aho (i:=k) (by omega)) rfl (.tmp rfl) rfl rfl T231 rfl rfl) ?_
  refine gv (u64_in (by omega)) ?_
  refine gs (a06 (.tmp rfl) (.tmp rfl) (by omega) a6j rfl) ?_
  refine ga (abc (by omega)) ?_
  exact gK3 hK1 (out.set k ((r * 2 ^ 32 + aab a k) / w)) ((r * 2 ^ 32 + aab a k) % w) k ⟨by simp [ho],by omega,ae6 hw h2,Nat.mod_lt _ hw0,a4v (by omega) (by omega) hv⟩ (hw:=Wk.of ab0 (.cons rfl (BlkSub.of (by rw [map_set]; rfl)) .nil))
 ·have hin : i = 0 := by have := ht16; simp [aaa] at this; omega
  subst hin
  obtain ⟨h3,h4⟩:=aka hv hr
  simp only [drop_zero] at h3 h4
  refine gW ((Wk.freeze (k:=11) rfl).trans <| Wk.of (sl:=[(6,some (ws out)),(7,some (u64 r))]) (hp:=[]) (.cons rfl (Sub.of (ab8 (by simp [ho]))) (.k .nil)) .nil) ?_
  refine gc (al0 out hw (by omega)) ?_
  refine gv ((aa7 _).trans (by rw [Nat.mod_eq_of_lt (by omega)])) ?_
  refine gE2 ?_
  rw [h3,h4]; rfl
theorem an5 (d:Nat) (hd:Nat.blt d 1000 = true) (a:List Nat) (n:Nat) (ha:Ws a) (la:a.length < big) (hn:n < 32):Con prog 362 [ws a, i64 n] [] (.ms d 1 0 (a.length + 1)) [(d, some (.row 1 ((adw (a.length + 1) (2 ^ n * val a)).map u32)))]:=by
 have la':=la
 unfold big at la
 refine gF func362 (fun k z h=>by cases h) ?_
 refine gl ?_
 refine ga (ad1 (y:=1) (by unfold acr; omega) (by unfold acr; omega)) ?_
 refine gs (agv (.tmp rfl) T68 rfl T231 rfl rfl (by omega) (by dsimp only; omega) rfl) ?_
 refine gl ?_
 refine gL2 [0,1,13,14] [] (fun (out:List Nat) (i:Nat)=>[(5,some (.ms 12 1 0 (a.length + 1))),(15,some (i64 i))]) (fun out _=>[(12,some (.row 1 (out.map u32)))]) (fun out i=>out.length = a.length + 1 /\ i <= a.length /\ Ws out /\ aab out i < 2 ^ n /\ val (out.take (i + 1)) = 2 ^ n * val (a.take i)) (fun _ i=>a.length - i) (List.replicate (a.length + 1) 0) 0 ⟨by simp,by omega,akt _,by simp [aab,Nat.pow_pos],by simp [val,List.replicate_succ]⟩ ?_ (h2:=(.cons rfl (BlkSub.of (by rw [map_replicate]; rfl)) .nil))
 rintro out i ⟨ho,hi,hw,hr,hv⟩ K1 hK1
 refine gC (fun ht16=>?_) (fun ht16=>?_)
 ·have hin : i < a.length := by simpa [aaa] using ht16
  have h1:=aam ha i
  have h2:=bkc (a:=a) (i:=i) (n:=n) (show i + 1 < out.length by omega) hv
  have h3:=biw (x:=aab a i) hn hr
  have h4:=brf (n:=n) h1
  have h5:2 ^ n <= 2 ^ 31:=afb (by omega)
  have h6:aab a i * 2 ^ n <= aab a i * 2 ^ 31:=mul_le_mul_left _ h5
  have h7:=aam hw i
  refine gi (awb (n:=i) (by omega) (by first | omega | (simp; omega))) ?_
  refine gv (u64_in (by omega)) ?_
  refine gs (ag5 (.tmp rfl) (.tmp rfl) (by omega) (am8 (by omega) (by omega)) rfl) ?_
  refine gs (aap (n:=i) (.tmp rfl) (.tmp rfl) T68 rfl T231 rfl (by omega) (by first | omega | (simp; omega)) rfl) ?_
  refine gs (aau (.tmp rfl) rfl (aho (i:=i) (by omega)) T231 rfl rfl rfl) ?_
  refine gv (aa7 _) ?_
  refine gs (afg (.tmp rfl) (.tmp rfl) rfl ((am1 (by omega) (by omega)).trans (by rw [brd hn hr])) rfl) ?_
  refine gs (aap (n:=i) (.tmp rfl) (.tmp rfl) T68 rfl T231 rfl (by omega) (by first | omega | (simp; omega)) rfl) ?_
  refine gs (abh (.tmp rfl) rfl (aho (i:=i) (by omega)) rfl (.tmp rfl) rfl rfl T231 rfl rfl) ?_
  refine ga (ad1 (y:=1) (by unfold acr; omega) (by unfold acr; omega)) ?_
  refine gs (adn (.tmp rfl) (.const _) (by omega) (adp _ 32 (by omega)) rfl) ?_
  refine gv ((aa7 _).trans (by rw [Nat.mod_eq_of_lt (show aab a i * 2 ^ n / 2 ^ 32 < 4294967296 by omega)])) ?_
  refine gs (aap (n:=i + 1) (.tmp rfl) (.tmp rfl) T68 rfl T231 rfl (by omega) (by first | omega | (simp; omega)) rfl) ?_
  refine gs (abh (.tmp rfl) rfl (by rw [List.getElem?_set_ne (by omega)]; exact aho (i:=i + 1) (by omega)) rfl (.tmp rfl) rfl rfl T231 rfl rfl) ?_
  refine ga (aa1 (by omega)) ?_
  exact gK2 hK1 ((out.set i (aab out i + aab a i * 2 ^ n % 4294967296)).set (i + 1) (aab a i * 2 ^ n / 4294967296)) (i + 1) ⟨by simp [ho],by omega,ae6 (ae6 hw (by omega)) (by omega),by rw [a6z (by simp; omega)]; exact h4,h2⟩ (hw:=Wk.of ab0 (.cons rfl (BlkSub.of (by rw [map_set,map_set]; rfl)) .nil))
 ·have hin : i = a.length := by have : a.length <= i := (by simpa [aaa] using ht16); omega
  subst hin
  rw [take_length,aav (by omega)] at hv
  refine gR ?_
  exact Fin.own1 rfl hd (by rw [atm hw ho hv])
theorem arw (a:List Nat) (n:Nat) (ha:Ws a) (la:a.length <= big) (hn:n < 32):FnC prog 365 [ws a, i64 n] (ws (ofNat (val a / 2 ^ n))):=by
 have la':=la
 unfold big at la
 refine gF0 func365 ?_
 refine gl ?_
 refine gs (agv (.tmp rfl) T68 rfl T231 rfl rfl (by omega) (by dsimp only; omega) rfl) ?_
 refine gl ?_
 refine gL2 [0,1,11] [] (fun (out:List Nat) (i:Nat)=>[(5,some (.ms 9 1 0 a.length)),(12,some (i64 i))]) (fun out _=>[(9,some (.row 1 (out.map u32)))]) (fun out i=>out.length = a.length /\ i <= a.length /\ Ws out /\ val (out.take i) = val a / 2 ^ n % 4294967296 ^ i) (fun _ i=>a.length - i) (List.replicate a.length 0) 0 ⟨by simp,by omega,akt _,by simp [val,Nat.mod_one]⟩ ?_ (h2:=(.cons rfl (BlkSub.of (by rw [map_replicate]; rfl)) .nil))
 rintro out i ⟨ho,hi,hw,hv⟩ K1 hK1
 refine gC (fun ht13=>?_) (fun ht13=>?_) (st2:=(7,0))
 ·have hin : i < a.length := by simpa [aaa] using ht13
  have h1:=aam ha i
  have h2:=aam ha (i + 1)
  have h3:=axc ha hin (show i < out.length by omega) (show n <= 32 by omega) hv
  refine gi (awb (n:=i) (by omega) (by first | omega | (simp; omega))) ?_
  refine gv (u64_in (by omega)) ?_
  refine ga (ad1 (y:=1) (by unfold acr; omega) (by unfold acr; omega)) ?_
  refine gc (ar9 a (i + 1) ha) ?_
  refine gs (ag5 (.tmp rfl) (.const _) (by omega) (am8 (n:=32) (by omega) (by omega)) rfl) ?_
  refine gs (afg (.tmp rfl) (.tmp rfl) rfl ((ah3 (by omega) (by omega)).trans (by rw [ayx (by omega)])) rfl) ?_
  refine gs (adn (.tmp rfl) (.tmp rfl) (by omega) (adp _ _ (by omega)) rfl) ?_
  refine gv (aa7 _) ?_
  refine gs (aap (n:=i) (.tmp rfl) (.tmp rfl) T68 rfl T231 rfl (by omega) (by first | omega | (simp; omega)) rfl) ?_
  refine gs (abh (.tmp rfl) rfl (aho (i:=i) (by omega)) rfl (.tmp rfl) rfl rfl T231 rfl rfl) ?_
  refine gD ?_
  refine ga (aa1 (by omega)) ?_
  exact gK2 hK1 (out.set i ((aab a i + aab a (i + 1) * 2 ^ 32) / 2 ^ n % 4294967296)) (i + 1) ⟨by simp [ho],by omega,ae6 hw (by omega),h3⟩ (hw:=Wk.of ab0 (.cons rfl (BlkSub.of (by rw [map_set]; rfl)) .nil))
 ·have hin : i = a.length := by have : a.length <= i := (by simpa [aaa] using ht13); omega
  refine gW ((Wk.freeze (k:=9) rfl).trans <| Wk.of (sl:=[(5,some (ws out))]) (hp:=[]) (.cons rfl (Sub.of (ab8 (by simp [ho]))) .nil) .nil) ?_
  refine gc (al0 out hw (by omega)) ?_
  refine gE1 ?_
  rw [bbx ha ho (hin ▸ hv)]
end Go.Lw
namespace Go.Lw
open Go.Proofs
theorem bok {b:Nat} {p:Prop} [Decidable p] (h:b = 1 ↔ p):ali [AV.v (Value.bool (aaa BinOp.eql (b:Int) 1))] = bl (decide p):=by
 have:((b:Int) == 1) = decide (b = 1):=by rw [Bool.eq_iff_iff]; simp; omega
 simp only [ali,aaa,this,bl]
 rw [decide_eq_decide.2 h]
theorem aop (u v:List Nat) (off len n:Nat) (hu:Ws u) (hv:Ws v) (hvl:v.length + 1 <= len) (hj:off + len <= u.length) (hn:n < 4294967296) (lu:u.length <= acr) :
  Con prog 363 [.ms 1000 1 off len, ws v, u64 n] [(1000, some (.row 1 (u.map u32)))] (bl (decide (val (win u off len) < n * val v)))
   [(1000,some (.row 1 ((wr u off (adw len (a5a n (val v) (val (win u off len)) len))).map u32)))]:=by
 unfold acr at lu
 refine gF func363 (fun k z h=>acf h) ?_
 refine gL5 [1,2,12] [] (fun (o:List Nat) (c b lo i:Nat)=>[(0,some (.ms 1000 1 off len)),(7,some (u64 c)),(8,some (u64 b)),(13,some (i64 i))]) (fun o _ _ _ _=>[(1000,some (.row 1 (o.map u32)))]) (fun o c b lo i=>o.length = u.length /\ i <= len /\ Ws o /\ c < 4294967296 /\ b <= 1 /\ o.take off = u.take off /\ o.drop (off + i) = u.drop (off + i) /\ lo + c * 4294967296 ^ i = n * val (v.take i) /\ val (win o off i) + lo = val (win u off i) + b * 4294967296 ^ i) (fun _ _ _ _ i=>len - i) u 0 0 0 0 ⟨rfl,by omega,hu,by omega,by omega,rfl,rfl,by simp [val],by simp []⟩ ?_
 rintro o c b lo i ⟨ho,hi,hw,hc,hb,hd1,hd2,hv1,hv2⟩ K1 hK1
 refine gC (fun ht14=>?_) (fun ht14=>?_)
 ·have hin : i < len := by simpa [aaa] using ht14
  have h1:=aam hu (off + i)
  have h2:=aam hv i
  have h0:=aep hd2
  have h4:=aox hn h2
  obtain ⟨c1,hc1⟩:∃ c1,c1 = c + n * aab v i:=⟨_,rfl⟩
  have h3:=avg h1 (show c1 % 4294967296 < 4294967296 by omega) hb hv2
  obtain ⟨d,hd⟩:∃ d,d = if c1 % 4294967296 + b <= aab u (off + i) then aab u (off + i) - c1 % 4294967296 - b else aab u (off + i) + 18446744073709551616 - c1 % 4294967296 - b:=⟨_,rfl⟩
  rw [<- hd] at h3
  have hd3:d < 18446744073709551616:=by rw [hd]; split <;> omega
  have h5:=a3t (w:=aab v i) hv1
  refine gc (by apply ar9 <;> assumption) ?_
  refine ga (aua (by omega)) ?_
  refine ga ((ae1 (by omega)).trans (by rw [<- hc1])) ?_
  refine gs (ag6 (n:=i) (.tmp rfl) (.tmp rfl) T68 rfl T231 rfl (by omega) (by first | omega | (simp; omega)) rfl) ?_
  refine gs (aau (.tmp rfl) rfl (by rw [aho (show off + i < o.length by omega),h0]) T231 rfl rfl rfl) ?_
  refine gv (u64_in (by omega)) ?_
  refine gv (aa7 _) ?_
  refine gv (u64_in (by omega)) ?_
  refine ga (agp (by omega) (by omega)) ?_
  refine ga (show _ = (d:Int) by rw [agp (by split <;> omega) (by omega),hd]; congr 1; (repeat' split) <;> omega) ?_
  refine gv (aa7 _) ?_
  refine gs (ag6 (n:=i) (.tmp rfl) (.tmp rfl) T68 rfl T231 rfl (by omega) (by first | omega | (simp; omega)) rfl) ?_
  refine gs (abh (.tmp rfl) rfl (aho (i:=off + i) (by omega)) rfl (.tmp rfl) rfl rfl T231 rfl rfl) ?_
  refine gs (adn (.tmp rfl) (.const _) (by omega) (adp _ 63 (by omega)) rfl) ?_
  refine gs (adn (.tmp rfl) (.const _) (by omega) (adp _ 32 (by omega)) rfl) ?_
  refine ga (aa1 (by omega)) ?_
  exact gK5 hK1 (o.set (off + i) (d % 4294967296)) (c1 / 4294967296) (d / 2 ^ 63) (lo + 4294967296 ^ i * (c1 % 4294967296)) (i + 1) ⟨by simp [ho],by omega,ae6 hw (by omega),by omega,by omega,by rw [List.take_set_of_le (by omega)]; exact hd1,aez hd2,by rw [aag,Nat.pow_succ,hc1]; exact h5,by rw [aqe (by omega),aoi,Nat.pow_succ]; exact h3⟩ (hw:=Wk.of ab0 (.cons rfl (BlkSub.of (by rw [map_set]; rfl)) .nil))
 ·have hin : i = len := by have : len <= i := (by simpa [aaa] using ht14); omega
  subst hin
  obtain ⟨h6,h7⟩:=a3e hu hw ho hj hv hvl hn hd1 hd2 hb hv1 hv2
  refine gR ?_
  exact Fin.own2 rfl (by rw [<- h6]) (bok h7)
theorem ar7 (u v:List Nat) (off len:Nat) (hu:Ws u) (hv:Ws v) (hvl:v.length <= len) (hj:off + len <= u.length) (lu:u.length <= acr) :
  Con prog 364 [.ms 1000 1 off len, ws v] [(1000, some (.row 1 (u.map u32)))] (.tup [])
   [(1000,some (.row 1 ((wr u off (adw len ((val (win u off len) + val v) % 4294967296 ^ len))).map u32)))]:=by
 unfold acr at lu
 refine gF func364 (fun k z h=>acf h) ?_
 refine gL3 [1,7] [] (fun (o:List Nat) (c i:Nat)=>[(0,some (.ms 1000 1 off len)),(4,some (u64 c)),(8,some (i64 i))]) (fun o _ _=>[(1000,some (.row 1 (o.map u32)))]) (fun o c i=>o.length = u.length /\ i <= len /\ Ws o /\ c <= 1 /\ o.take off = u.take off /\ o.drop (off + i) = u.drop (off + i) /\ val (win o off i) + c * 4294967296 ^ i = val (win u off i) + val (v.take i)) (fun _ _ i=>len - i) u 0 0 ⟨rfl,by omega,hu,by omega,rfl,rfl,by simp [val]⟩ ?_
 rintro o c i ⟨ho,hi,hw,hc,hd1,hd2,hv2⟩ K1 hK1
 refine gC (fun ht9=>?_) (fun ht9=>?_)
 ·have hin : i < len := by simpa [aaa] using ht9
  have h1:=aam hu (off + i)
  have h2:=aam hv i
  have h0:=aep hd2
  have h3:=apa (u:=aab u (off + i)) (w:=aab v i) hv2
  refine gs (ag6 (n:=i) (.tmp rfl) (.tmp rfl) T68 rfl T231 rfl (by omega) (by first | omega | (simp; omega)) rfl) ?_
  refine gs (aau (.tmp rfl) rfl (by rw [aho (show off + i < o.length by omega),h0]) T231 rfl rfl rfl) ?_
  refine gv (u64_in (by omega)) ?_
  refine gc (by apply ar9 <;> assumption) ?_
  refine ga (ae1 (by omega)) ?_
  refine ga (ae1 (by omega)) ?_
  refine gD ?_
  refine gv (aa7 _) ?_
  refine gs (ag6 (n:=i) (.tmp rfl) (.tmp rfl) T68 rfl T231 rfl (by omega) (by first | omega | (simp; omega)) rfl) ?_
  refine gs (abh (.tmp rfl) rfl (aho (i:=off + i) (by omega)) rfl (.tmp rfl) rfl rfl T231 rfl rfl) ?_
  refine gs (adn (.tmp rfl) (.const _) (by omega) (adp _ 32 (by omega)) rfl) ?_
  refine ga (aa1 (by omega)) ?_
  exact gK3 hK1 (o.set (off + i) ((c + (aab u (off + i) + aab v i)) % 4294967296)) ((c + (aab u (off + i) + aab v i)) / 4294967296) (i + 1) ⟨by simp [ho],by omega,ae6 hw (by omega),by omega,by rw [List.take_set_of_le (by omega)]; exact hd1,aez hd2,by rw [aqe (by omega),aoi,aag,Nat.pow_succ]; exact h3⟩ (hw:=Wk.of ab0 (.cons rfl (BlkSub.of (by rw [map_set]; rfl)) .nil))
 ·have hin : i = len := by have : len <= i := (by simpa [aaa] using ht9); omega
  subst hin
  have h6:=bep hw ho hj hvl hd1 hd2 hv2
  refine gR ?_
  exact Fin.own2 rfl (by rw [<- h6]) rfl
end Go.Lw
namespace Go.Lw
open Go.Proofs
theorem bke (x:Nat) (hx:x < 4294967296):FnC prog 318 [u32 x] (i64 (acy x)):=by
 refine gF0 func318 ?_
 refine gC (fun ht4=>?_) (fun ht4=>?_)
 ·obtain ⟨y, hy, h2, h3⟩ : ∃ y, y = x / 2 ^ 16 /\ y < 65536 /\ acy x = 16 + acy y := ⟨_, rfl, by omega, amq (by have := ht4; simp [aaa] at this; omega)⟩
  refine gs (adn (.tmp rfl) (.const _) (by omega) ((an0 x 16 (by omega)).trans (by rw [<- hy])) rfl) ?_
  refine gC (fun ht8=>?_) (fun ht8=>?_)
  ·have h5 : 2 ^ 8 <= y := by simp [aaa] at ht8; omega
   obtain ⟨z,hz,h6,h7⟩:∃ z,z = y / 2 ^ 8 /\ z < 256 /\ acy x = (acy x - acy y) + 8 + acy z:=⟨_,rfl,by omega,by have:=amq h5; omega⟩
   refine gs (adn (.tmp rfl) (.const _) (by omega) ((an0 _ 8 (by omega)).trans (show _ = (z:Int) by first | (rw [hz]; done) | (rw [hz,hy]; done))) rfl) ?_
   refine ga (aa1 (by omega)) ?_
   refine gv (show IntKind.u8.wrap _ = (z:Int) by first | exact anm h6 | (rw [hz]; exact anm (by omega)) | (rw [hz,hy]; exact anm (by omega))) ?_
   refine gs (alp (y:=z) (.const _) (.tmp rfl) T9 rfl (by kernel_rfl) (by first | rfl | omega) (by omega) rfl) ?_
   refine gv (i64_in (by have:=ade h6; omega)) ?_
   refine ga (aa1 (by have:=ade h6; omega)) ?_
   refine gE1 ?_
   simp only [i64]; congr 2; have:=ade h6; omega
  ·have h5 : y < 2 ^ 8 := by simp [aaa] at ht8; omega
   obtain ⟨z,hz,h6,h7⟩:∃ z,z = y /\ z < 256 /\ acy x = (acy x - acy y) + acy z:=⟨_,rfl,by omega,by omega⟩
   refine gv (show IntKind.u8.wrap _ = (z:Int) by first | exact anm h6 | (rw [hz]; exact anm (by omega)) | (rw [hz,hy]; exact anm (by omega))) ?_
   refine gs (alp (y:=z) (.const _) (.tmp rfl) T9 rfl (by kernel_rfl) (by first | rfl | omega) (by omega) rfl) ?_
   refine gv (i64_in (by have:=ade h6; omega)) ?_
   refine ga (aa1 (by have:=ade h6; omega)) ?_
   refine gE1 ?_
   simp only [i64]; congr 2; have:=ade h6; omega
 ·obtain ⟨y, hy, h2, h3⟩ : ∃ y, y = x /\ y < 65536 /\ acy x = 0 + acy y := ⟨_, rfl, by have := ht4; simp [aaa] at this; omega, by omega⟩
  refine gC (fun ht8=>?_) (fun ht8=>?_)
  ·have h5 : 2 ^ 8 <= y := by simp [aaa] at ht8; omega
   obtain ⟨z,hz,h6,h7⟩:∃ z,z = y / 2 ^ 8 /\ z < 256 /\ acy x = (acy x - acy y) + 8 + acy z:=⟨_,rfl,by omega,by have:=amq h5; omega⟩
   refine gs (adn (.tmp rfl) (.const _) (by omega) ((an0 _ 8 (by omega)).trans (show _ = (z:Int) by first | (rw [hz]; done) | (rw [hz,hy]; done))) rfl) ?_
   refine ga (aa1 (by omega)) ?_
   refine gv (show IntKind.u8.wrap _ = (z:Int) by first | exact anm h6 | (rw [hz]; exact anm (by omega)) | (rw [hz,hy]; exact anm (by omega))) ?_
   refine gs (alp (y:=z) (.const _) (.tmp rfl) T9 rfl (by kernel_rfl) (by first | rfl | omega) (by omega) rfl) ?_
   refine gv (i64_in (by have:=ade h6; omega)) ?_
   refine ga (aa1 (by have:=ade h6; omega)) ?_
   refine gE1 ?_
   simp only [i64]; congr 2; have:=ade h6; omega
  ·have h5 : y < 2 ^ 8 := by simp [aaa] at ht8; omega
   obtain ⟨z,hz,h6,h7⟩:∃ z,z = y /\ z < 256 /\ acy x = (acy x - acy y) + acy z:=⟨_,rfl,by omega,by omega⟩
   refine gv (show IntKind.u8.wrap _ = (z:Int) by first | exact anm h6 | (rw [hz]; exact anm (by omega)) | (rw [hz,hy]; exact anm (by omega))) ?_
   refine gs (alp (y:=z) (.const _) (.tmp rfl) T9 rfl (by kernel_rfl) (by first | rfl | omega) (by omega) rfl) ?_
   refine gv (i64_in (by have:=ade h6; omega)) ?_
   refine ga (aa1 (by have:=ade h6; omega)) ?_
   refine gE1 ?_
   simp only [i64]; congr 2; have:=ade h6; omega
theorem aoq (x:Nat) (hx:x < 4294967296):FnC prog 361 [u32 x] (i64 (32 - acy x:Nat)):=by
 have h1:acy x <= 32:=by
  by_cases h:x = 0
  ·subst h; decide
  ·exact (azq h hx).1
 refine gF0 func361 ?_
 refine gc (bke x hx) ?_
 refine ga (i64_in (by simp only [aec]; omega)) ?_
 refine gE1 ?_
 simp only [i64,aec]; congr 2; omega
end Go.Lw
namespace Go.Lw
open Go.Proofs
theorem aiy (a b:List Nat) (ha:Ws a) (hb:Ws b) (na:Nz a) (nb:Nz b) (hb0:b ≠ []) (la:a.length < big) (lb:b.length < big) :
  FnC prog 297 [ws a,ws b] (.tup [ws (ofNat (val a / val b)),ws (ofNat (val a % val b))]):=by
 have la':=la
 unfold big at la lb
 refine gF0 func297 ?_
 refine gc (afd a b ha hb na nb) ?_
 refine gC (fun ht22=>?_) (fun ht22=>?_)
 ·have h1:val a < val b:=by
   simp only [aaa] at ht22
   split at ht22
   ·assumption
   ·split at ht22 <;> simp at ht22
  refine gc (al0 a ha (by omega)) ?_
  refine gR ?_
  exact aoz (by rw [Nat.div_eq_of_lt h1]; exact Sub.nil _ _ _) (by rw [Nat.mod_eq_of_lt h1]; exact Sub.refl _)
 ·have h1:val b <= val a:=by
   simp only [aaa] at ht22
   split at ht22
   ·simp at ht22
   ·omega
  refine gl ?_
  refine gC (fun ht27=>?_) (fun ht27=>?_)
  ·have hl : b.length = 1 := by have := ht27; simp [aaa] at this; omega
   obtain ⟨x,rfl⟩:∃ x,b = [x]:=List.length_eq_one_iff.1 hl
   have hx:x ≠ 0:=nb x rfl
   have hxB:x < 4294967296:=hb x (by simp)
   have hv:val [x] = x:=by simp [val]
   have hm:=Nat.mod_lt (val a) (show 0 < x by omega)
   refine gi (show _ = some (u32 x) from rfl) ?_
   refine gc (aqr a x ha (by omega) (by omega) hxB) ?_
   refine gc (al0 [val a % x] (avu (by omega)) (by simp [big])) ?_
   refine gE2 ?_
   rw [hv]; simp [val]
  ·have hl : b.length ≠ 1 := by have := ht27; simp [aaa] at this; omega
   obtain ⟨n,hn⟩:∃ n,b.length = n + 2:=⟨b.length - 2,by have:=List.length_pos_iff.2 hb0; omega⟩
   obtain ⟨sh,v,hsh,hsh2,hv,wv,lv,vv,hvt,htop,hlo⟩:=bmu hb nb hn
   have hab:b.length <= a.length:=by
    rcases lt_or_ge a.length b.length with h2 | h2
    ·have:=agt ha nb h2; omega
    ·exact h2
   obtain ⟨lq,hlq⟩:∃ lq,a.length + 1 = lq + (n + 2):=⟨a.length + 1 - (n + 2),by omega⟩
   have hbt:=aam hb (n + 1)
   refine gl ?_
   refine ga (show _ = ((n + 1:Nat):Int) by rw [abc (by omega)]; omega) ?_
   refine gi (awb (n:=n + 1) (by omega) (by first | omega | (simp; omega))) ?_
   refine gc (show FnC _ _ _ (i64 (sh:Nat)) by rw [hsh]; exact aoq _ hbt) ?_
   refine gt (aad (an5 900 rfl b sh hb (by unfold big; omega) hsh2) (.cons (.tmp rfl) (.cons (.tmp rfl) .nil)) (by first | exact hH0 | exact hH1 rfl | exact hH2 rfl rfl) rfl rfl) ?_
   refine gl ?_
   refine gs (ajd (.tmp rfl) (.none _) (.some _ (.tmp rfl) (by omega)) T68 rfl T231 rfl (by omega) (by omega) rfl) ?_
   refine gt (aad (an5 901 rfl a sh ha (by unfold big; omega) hsh2) (.cons (.tmp rfl) (.cons (.tmp rfl) .nil)) (by first | exact hH0 | exact hH1 rfl | exact hH2 rfl rfl) rfl rfl) ?_
   refine gD ?_ (8,0)
   refine gW ((Wk.freeze (k:=900) rfl).trans <| Wk.of (sl:=[(0,some (ws a)),(1,some (ws b)),(8,some (i64 sh)),(9,some (ws v)),(10,some (.ms 901 1 0 (a.length + 1)))]) (hp:=[(901,some (.row 1 ((adw (a.length + 1) (2 ^ sh * val a)).map u32)))]) (.k (.k (.k (.cons rfl (Sub.of (bl1 hn hv)) (.k .nil))))) (.cons rfl (.refl _) .nil)) ?_
   refine gl ?_
   refine ga (show _ = (lq:Int) by rw [lv,abc (by omega)]; omega) ?_
   refine gs (agv (.tmp rfl) T68 rfl T231 rfl rfl (by omega) (by dsimp only; omega) rfl) ?_
   refine gl ?_
   refine ga (show _ = ((n + 1:Nat):Int) by rw [lv,abc (by omega)]; omega) ?_
   refine gi (awb (n:=n + 1) (by omega) (by first | omega | (simp; omega))) ?_
   refine gv (u64_in (by have:=aam wv (n + 1); omega)) ?_
   refine gl ?_
   refine ga (show _ = (n:Int) by rw [lv,abc (by omega)]; omega) ?_
   refine gi (awb (n:=n) (by omega) (by first | omega | (simp; omega))) ?_
   refine gv (u64_in (by have:=aam wv n; omega)) ?_
   refine gD ?_
   refine ga (abc (by omega)) ?_
   refine gL3 [8,9,12,13] [] (fun (q u:List Nat) (j:Nat)=>[(10,some (.ms 901 1 0 (a.length + 1))),(11,some (.ms 61 1 0 lq)),(14,some (i64 ((j:Int) - 1)))]) (fun q u _=>[(901,some (.row 1 (u.map u32))),(61,some (.row 1 (q.map u32)))]) (fun q u j=>q.length = lq /\ u.length = a.length + 1 /\ Ws q /\ Ws u /\ j <= lq /\ val (u.drop j) < val v /\ 2 ^ sh * val a = val v * (4294967296 ^ j * val (q.drop j)) + val u) (fun _ _ j=>j) (List.replicate lq 0) (adw (a.length + 1) (2 ^ sh * val a)) lq ⟨by simp,abv _ _,akt _,af2 _ _,le_refl _,by rw [vv]; exact (bfl ha hsh2 hlq hlo).2,by rw [(bfl ha hsh2 hlq hlo).1]; simp [val]⟩ ?_ (h2:=(.cons rfl (.refl _) (.cons rfl (BlkSub.of (by rw [map_replicate]; rfl)) .nil)))
   rintro q u j ⟨hql,hul,wq,wu,hj,hlt,hU⟩ K1 hK1
   refine gC (fun ht80=>?_) (fun ht80=>?_) (st2:=(23,0))
   ·have hj0 : 1 <= j := by have := ht80; simp [aaa] at this; omega
    obtain ⟨k,rfl⟩:∃ k,j = k + 1:=⟨j - 1,by omega⟩
    obtain ⟨W,hW⟩:∃ W,W = val (win u k (n + 3)):=⟨_,rfl⟩
    have hVl:val v < 4294967296 ^ (n + 2):=by have:=abk v wv; rwa [lv] at this
    obtain ⟨e1,e2,e3⟩:=beb (u:=u) (q:=q) (k:=k) (lv:=n + 2) wu (by omega) (by omega) hVl hlt hU
    simp only [show n + 2 + 1 = n + 3 from rfl] at e1 e2 e3
    have hdig:=bo0 wv (aog wu k (n + 3)) lv (alb (by omega)) hvt e1
    rw [<- hW] at e1 e2 e3 hdig
    have wp:=aog wu k (n + 3)
    have b1:=aam wp n
    have b2:=aam wp (n + 1)
    have b3:=aam wp (n + 2)
    have b4:=hdig.htop
    have b5:=hdig.htopB
    have b6:=hdig.hnext
    obtain ⟨top,htop'⟩:∃ top,top = aab v (n + 1):=⟨_,rfl⟩
    obtain ⟨nx,hnx⟩:∃ nx,nx = aab v n:=⟨_,rfl⟩
    obtain ⟨hd,hhd⟩:∃ hd,hd = aab (win u k (n + 3)) (n + 2) * 4294967296 + aab (win u k (n + 3)) (n + 1):=⟨_,rfl⟩
    obtain ⟨th,hth⟩:∃ th,th = aab (win u k (n + 3)) n:=⟨_,rfl⟩
    rw [<- htop',<- hnx,<- hhd,<- hth] at hdig
    rw [<- htop'] at b4 b5 ⊢
    rw [<- hnx] at b6 ⊢
    rw [<- hth] at b1
    have hdB:hd < 18446744073709551616:=by omega
    refine gl ?_
    refine ga (show _ = ((k + n + 2:Nat):Int) by rw [lv,aa1 (by omega)]; omega) ?_
    refine ga (show _ = ((k + n + 3:Nat):Int) by rw [aa1 (by omega)]; omega) ?_
    refine gs (ajd (.tmp rfl) (.some _ (.tmp rfl) (by omega)) (.some _ (.tmp rfl) (by omega)) T68 rfl T231 rfl (by omega) (by omega) rfl) ?_ (14,0)
    refine gW (Wk.of (sl:=[(8,some (i64 sh)),(9,some (ws v)),(10,some (.ms 901 1 0 (a.length + 1))),(11,some (.ms 61 1 0 lq)),(12,some (u64 top)),(13,some (u64 nx)),(14,some (i64 k)),(15,some (.ms 901 1 k (n + 3)))]) (hp:=[(901,some (.row 1 (u.map u32))),(61,some (.row 1 (q.map u32)))]) (.k (.k (.k (.k (.k (.k (.cons rfl (Sub.int (by omega)) (.cons rfl (Sub.of (by congr 1 <;> omega)) .nil)))))))) (.cons rfl (.refl _) (.cons rfl (.refl _) .nil))) ?_
    refine gl ?_
    refine gs (ag6 (n:=n + 2) (.tmp rfl) (.tmp rfl) T68 rfl T231 rfl (by omega) (by omega) rfl) ?_
    refine gs (aau (.tmp rfl) rfl (ba0 (n:=n + 3) (i:=n + 2) (by omega) (by omega)) T231 rfl rfl rfl) ?_
    refine gv (u64_in (by omega)) ?_
    refine gs (ag5 (.tmp rfl) (.const _) (by omega) (am8 (n:=32) (by omega) (by omega)) rfl) ?_
    refine gl ?_
    refine ga (show _ = ((n + 1:Nat):Int) by rw [lv,abc (by omega)]; omega) ?_
    refine gs (ag6 (n:=n + 1) (.tmp rfl) (.tmp rfl) T68 rfl T231 rfl (by omega) (by omega) rfl) ?_
    refine gs (aau (.tmp rfl) rfl (ba0 (n:=n + 3) (i:=n + 1) (by omega) (by omega)) T231 rfl rfl rfl) ?_
    refine gv (u64_in (by omega)) ?_
    refine gs (afg (.tmp rfl) (.tmp rfl) rfl ((ah3 (by omega) (by omega)).trans (show _ = (hd:Int) by rw [avt (by omega),hhd])) rfl) ?_
    refine gD ?_
    refine gs (aee (.tmp rfl) (.tmp rfl) (by omega) (a96 hdB) rfl) ?_
    refine gs (a06 (.tmp rfl) (.tmp rfl) (by omega) a6j rfl) ?_
    refine gD ?_
    refine gL2 [8,9,12,13,14] [901,61] (fun (g r:Nat)=>[(10,some (.ms 901 1 0 (a.length + 1))),(11,some (.ms 61 1 0 lq)),(15,some (.ms 901 1 k (n + 3))),(17,some (u64 g)),(18,some (u64 r))]) (fun _ _=>[]) (fun g r=>W / val v <= g /\ g * top + r = hd /\ g < 18446744073709551616 /\ r < 8589934592) (fun g _=>g) (hd / top) (hd % top) ⟨hdig.first,by rw [Nat.mul_comm]; exact Nat.div_add_mod _ _,by have:=Nat.div_le_self hd top; omega,by have:=Nat.mod_lt hd (show 0 < top by omega); omega⟩ ?_
    rintro g r ⟨hg,hgr,hgB,hrB⟩ K2 hK2
    refine gaG (fun ⟨h,h2⟩=>(aua (by simp [aaa] at h2; have:=aox (x:=g) (y:=nx) (by omega) b6; omega))) ?_
    refine gs (air rfl rfl rfl (fun h h2=>ag5 (.opt rfl (o2 h h2)) (.const _) (by omega) (am8 (n:=32) (by omega) (by simp [aaa] at h; omega)) rfl)) ?_
    refine glG ?_
    refine gaG (fun _=>(show _ = (n:Int) by rw [lv,abc (by omega)]; omega)) ?_
    refine gs (air rfl rfl rfl (fun h h2=>ag6 (n:=n) (.opt rfl (o2 h h2)) (.opt rfl (o2 h h2)) T68 rfl T231 rfl (by omega) (by omega) rfl)) ?_
    refine gs (air rfl rfl rfl (fun h h2=>aau (.opt rfl (o2 h h2)) rfl (ba0 (n:=n + 3) (i:=n) (by omega) (by omega)) T231 rfl rfl rfl)) ?_
    refine gvG (fun _=>(u64_in (by omega))) ?_
    refine gs (air rfl rfl rfl (fun h h2=>afg (.opt rfl (o2 h h2)) (.opt rfl (o2 h h2)) rfl ((ah3 (by simp [aaa] at h; omega) (by omega)).trans (by rw [avt (by omega)])) rfl)) ?_
    refine gC (fun ht133=>?_) (fun ht133=>?_)
    ·have hc:r < 4294967296 /\ (4294967296 <= g \/ r * 4294967296 + th < g * nx):=by
      rw [hth]
      have h9:=a1v.1 ht133
      rwa [show r * 2 ^ 32 = r * 4294967296 from rfl] at h9
     have hg1:=hdig.step hg hgr hc.2
     have hg0:1 <= g:=Nat.succ_le_of_lt (lt_of_le_of_lt (zero_le _) hg1)
     refine ga (a2n (by omega) (by omega)) ?_
     refine ga (ae1 (by omega)) ?_
     exact gK2 hK2 (g - 1) (r + top) ⟨Nat.le_sub_one_of_lt hg1,by rw [Nat.sub_mul]; have:=mul_le_mul_right top (show 1 <= g by omega); omega,by omega,by omega⟩
    ·have hc:¬ (r < 4294967296 /\ (4294967296 <= g \/ r * 4294967296 + th < g * nx)):=by
      rw [hth]
      intro hh
      rw [show r * 4294967296 = r * 2 ^ 32 from rfl] at hh
      exact Bool.eq_false_iff.1 ht133 (a1v.2 hh)
     obtain ⟨hgB2,hgq⟩:=hdig.last hgr hc
     have hVp:=hdig.vpos
     have hWl:val (win u k (n + 3)) < 4294967296 ^ (n + 3):=by have:=abk _ wp; rwa [alb (by omega)] at this
     obtain ⟨p1,p2⟩:=ben hVp (show val v <= 4294967296 ^ (n + 3) by have:=Nat.pow_le_pow_right (show 0 < 4294967296 by omega) (show n + 2 <= n + 3 by omega); omega) (hW ▸ hWl) hg hgq
     have hwul:k + (n + 3) <= u.length:=by omega
     have hwr:(wr u k (adw (n + 3) (a5a g (val v) W (n + 3)))).length = a.length + 1:=by rw [amb (by rw [abv]; omega),hul]
     refine gt (aad (Con.rekey 901 rfl rfl (aop u v k (n + 3) g wu wv (by omega) hwul hgB2 (by unfold acr; omega))) (.cons (.tmp rfl) (.cons (.tmp rfl) (.cons (.tmp rfl) .nil))) (by first | exact hH0 | exact hH1 rfl | exact hH2 rfl rfl) rfl rfl) ?_
     refine gC (fun ht142=>?_) (fun ht142=>?_)
     ·have hlt2 : W < g * val v := by rw [hW]; simpa using ht142
      obtain ⟨q1,q2,q3⟩:=p1 hlt2
      have hrl:a5a g (val v) W (n + 3) < 4294967296 ^ (n + 3):=by unfold a5a; rw [if_neg (by omega)]; rw [<- hW] at hWl; omega
      refine ga (a2n (by omega) (by omega)) ?_
      refine gt (aad (Con.rekey 901 rfl rfl (ar7 (wr u k (adw (n + 3) (a5a g (val v) (val (win u k (n + 3))) (n + 3)))) v k (n + 3) (a4u wu (af2 _ _)) wv (by omega) (by rw [<- hW,hwr]; omega) (by rw [<- hW,hwr]; unfold acr; omega))) (.cons (.tmp rfl) (.cons (.tmp rfl) .nil)) (by first | exact hH0 | exact hH1 rfl | exact hH2 rfl rfl) rfl rfl) ?_
      refine gv ((aa7 _).trans (by rw [Nat.mod_eq_of_lt (by omega)])) ?_
      refine gs (aap (n:=k) (.tmp rfl) (.tmp rfl) T68 rfl T231 rfl (by omega) (by omega) rfl) ?_
      refine gs (abh (.tmp rfl) rfl (aho (i:=k) (by omega)) rfl (.tmp rfl) rfl rfl T231 rfl rfl) ?_
      refine ga (abc (by omega)) ?_
      exact gK3 hK1 (q.set k (W / val v)) (wr u k (adw (n + 3) (W % val v))) k ⟨by simp [hql],by rw [amb (by rw [abv]; omega),hul],ae6 wq hdig.q_lt,a4u wu (af2 _ _),by omega,e2,e3⟩ (hw:=Wk.of ab0 (.cons rfl (BlkSub.of (by rw [<- hW]; first | (rw [q1]; done) | (rw [a7q (r:=W % val v) hwul (abv _ _) (by rw [afk _ _ hrl]; exact q1)]; done))) (.cons rfl (BlkSub.of (by rw [map_set,q2]; rfl)) .nil)))
     ·have hlt2 : ¬ W < g * val v := by rw [hW]; simpa using ht142
      obtain ⟨q1,q2⟩:=p2 hlt2
      refine gv ((aa7 _).trans (by rw [Nat.mod_eq_of_lt (by omega)])) ?_
      refine gs (aap (n:=k) (.tmp rfl) (.tmp rfl) T68 rfl T231 rfl (by omega) (by omega) rfl) ?_
      refine gs (abh (.tmp rfl) rfl (aho (i:=k) (by omega)) rfl (.tmp rfl) rfl rfl T231 rfl rfl) ?_
      refine ga (abc (by omega)) ?_
      exact gK3 hK1 (q.set k (W / val v)) (wr u k (adw (n + 3) (W % val v))) k ⟨by simp [hql],by rw [amb (by rw [abv]; omega),hul],ae6 wq hdig.q_lt,a4u wu (af2 _ _),by omega,e2,e3⟩ (hw:=Wk.of ab0 (.cons rfl (BlkSub.of (by rw [<- hW]; first | (rw [q1]; done) | (rw [a7q (r:=W % val v) hwul (abv _ _) (by rw [afk _ _ hrl]; exact q1)]; done))) (.cons rfl (BlkSub.of (by rw [map_set,q2]; rfl)) .nil)))
   ·have hj0 : j = 0 := by have := ht80; simp [aaa] at this; omega
    subst hj0
    have hU':2 ^ sh * val a = 2 ^ sh * val b * val q + val u:=by rw [<- vv]; simpa using hU
    obtain ⟨hQ,hR⟩:=bha hU' (by rw [<- vv]; simpa using hlt)
    refine gW ((Wk.freeze (k:=61) rfl).trans <| (Wk.freeze (k:=901) rfl).trans <| Wk.of (sl:=[(8,some (i64 sh)),(10,some (ws u)),(11,some (ws q))]) (hp:=[]) (.k (.cons rfl (Sub.of (ab8 (by simp [hul]))) (.cons rfl (Sub.of (by rw [show AV.fz 61 1 (q.map u32) (.ms 61 1 0 lq) = ws q from ab8 (by simp [hql])]; rfl)) .nil))) .nil) ?_
    refine gc (al0 q wq (by unfold big; omega)) ?_
    refine gc (arw u sh wu (by unfold big; omega) hsh2) ?_
    refine gE2 ?_
    rw [<- hQ,<- hR]
end Go.Lw
namespace Go.Lw
open Go.Proofs
theorem ao5 {b:Bool} {n:Nat}:(cond b (aaa .gtr ((ofNat n).length:Int) 0) false) = true ↔ (b = true /\ 0 < n):=by
 have h:aaa .gtr ((ofNat n).length:Int) 0 = true ↔ 0 < n:=by
  simp only [aaa,decide_eq_true_eq]
  constructor
  ·intro h; rcases Nat.eq_zero_or_pos n with h1 | h1; (subst h1; simp [a43] at h); exact h1
  ·intro h
   have:ofNat n ≠ []:=by intro h1; have:=aak n; rw [h1] at this; simp [val] at this; omega
   have:=List.length_pos_iff.2 this
   omega
 cases b with
 | false=>simp
 | true=>exact ⟨fun h1=>⟨rfl,h.1 h1⟩,fun h1=>h.2 h1.2⟩
theorem ahm (a:Wh) (ha:a.ok):FnC prog 227 [a.av] (i64 a.z.sign):=by
 obtain ⟨e1,e2,e3⟩:=a0y ha
 refine gF0 func227 ?_
 refine gc (abl a ha) ?_
 refine gl ?_
 refine gC (fun ht3=>?_) (fun ht3=>?_)
 ·have h0 : a.m.length = 0 := by simpa [aaa] using ht3
  refine gE1 ?_
  rw [e1 h0]; rfl
 ·have h0 : a.m.length ≠ 0 := by simpa [aaa] using ht3
  refine gC (fun ht8=>?_) (fun ht8=>?_)
  ·refine gE1 ?_
   rw [e2 h0 ht8]; rfl
  ·refine gE1 ?_
   rw [e3 h0 ht8]; rfl
theorem atg (a b:Wh) (ha:a.ok) (hb:b.ok):FnC prog 274 [a.av, b.av] (i64 (axr a.z b.z)):=by
 refine gF0 func274 ?_
 refine gc (ahm a ha) ?_
 refine gc (ahm b hb) ?_
 refine gD ?_
 refine gC (fun ht14=>?_) (fun ht14=>?_)
 ·have h0 : a.z.sign ≠ b.z.sign := by simpa [aaa] using ht14
  obtain ⟨e1,e2⟩:=bd4 h0
  refine gC (fun ht17=>?_) (fun ht17=>?_)
  ·have h1 : a.z.sign < b.z.sign := by simpa [aaa] using ht17
   refine gE1 ?_
   rw [e1 h1]; rfl
  ·have h1 : ¬ a.z.sign < b.z.sign := by simpa [aaa] using ht17
   refine gE1 ?_
   rw [e2 h1]; rfl
 ·have h0 : a.z.sign = b.z.sign := by simpa [aaa] using ht14
  have e1:=bdz h0
  refine gc (abl a ha) ?_
  refine gc (abl b hb) ?_
  refine gc (afd a.m b.m (Wh.ws ha) (Wh.ws hb) a.nz b.nz) ?_
  refine gD ?_
  refine gc (aa9 a ha) ?_
  refine gC (fun ht24=>?_) (fun ht24=>?_)
  ·rw [ht24, if_pos rfl] at e1
   refine gs (beg (.tmp rfl) rfl) ?_
   refine gE1 ?_
   rw [e1]
   split
   ·rfl
   ·split <;> rfl
  ·rw [ht24, if_neg Bool.false_ne_true] at e1
   refine gE1 ?_
   first | (rw [e1]; done) | (rw [e1]; rfl)
theorem ats (a:Wh) (ha:a.ok) (la:a.mag.length < big):FnC prog 145 [a.av] (zA (-a.z)):=by
 refine gF0 func145 ?_
 refine gc (aa9 a ha) ?_
 refine gc (abl a ha) ?_
 refine gc (aa4 _ a.m (Wh.ws ha) (Nat.le_of_lt (Wh.small ha la))) ?_
 refine gD ?_
 refine gE1 ?_
 rw [Wh.z_eq,<- a8k]; rfl
theorem au6 (a b:Wh) (ha:a.ok) (hb:b.ok) (la:a.mag.length + b.mag.length <= big):FnC prog 226 [a.av, b.av] (zA (a.z * b.z)):=by
 have h1:=Wh.m_le (w:=a)
 have h2:=Wh.m_le (w:=b)
 have h3:(ofNat (val a.m * val b.m)).length <= a.m.length + b.m.length:=aai (by rw [pow_add]; exact Nat.mul_lt_mul'' (abk _ (Wh.ws ha)) (abk _ (Wh.ws hb)))
 refine gF0 func226 ?_
 refine gc (aa9 a ha) ?_
 refine gc (aa9 b hb) ?_
 refine gc (abl a ha) ?_
 refine gc (abl b hb) ?_
 refine gc (aqn a.m b.m (Wh.ws ha) (Wh.ws hb) (by omega)) ?_
 refine gc (aa4 _ _ (aa3 _) (by omega)) ?_
 refine gD ?_
 refine gE1 ?_
 rw [aak,a5e]; rfl
theorem atd (a b:Wh) (ha:a.ok) (hb:b.ok) (la:a.mag.length < big) (lb:b.mag.length < big):FnC prog 225 [a.av, b.av] (zA (a.z + b.z)):=by
 have h1:=Wh.m_le (w:=a)
 have h2:=Wh.m_le (w:=b)
 have hla:val a.m < 4294967296 ^ (max a.m.length b.m.length):=lt_of_lt_of_le (abk _ (Wh.ws ha)) (Nat.pow_le_pow_right (by omega) (by omega))
 have hlb:val b.m < 4294967296 ^ (max a.m.length b.m.length):=lt_of_lt_of_le (abk _ (Wh.ws hb)) (Nat.pow_le_pow_right (by omega) (by omega))
 have h3:(ofNat (val a.m + val b.m)).length <= max a.m.length b.m.length + 1:=aai (by rw [Nat.pow_succ]; omega)
 have h4:(ofNat (val a.m - val b.m)).length <= max a.m.length b.m.length:=aai (by omega)
 have h5:(ofNat (val b.m - val a.m)).length <= max a.m.length b.m.length:=aai (by omega)
 refine gF0 func225 ?_
 refine gc (abl a ha) ?_
 refine gc (abl b hb) ?_
 refine gD ?_
 refine gc (aa9 a ha) ?_
 refine gc (aa9 b hb) ?_
 refine gD ?_
 refine gC (fun ht11=>?_) (fun ht11=>?_)
 ·have h0 : a.n = b.n := by simpa using ht11
  refine gc (aa9 a ha) ?_
  refine gc (akp a.m b.m (Wh.ws ha) (Wh.ws hb) (by omega) (by omega)) ?_
  refine gc (aa4 _ _ (aa3 _) (by omega)) ?_
  refine gE1 ?_
  rw [aak,a1q h0]; rfl
 ·have h0 : a.n ≠ b.n := by simpa using ht11
  refine gc (afd a.m b.m (Wh.ws ha) (Wh.ws hb) a.nz b.nz) ?_
  refine gC (fun ht23=>?_) (fun ht23=>?_)
  ·have h6:val b.m <= val a.m:=by
    rcases lt_or_ge (val a.m) (val b.m) with h | h
    ·rw [if_pos h] at ht23; cases ht23
    ·exact h
   refine gc (aa9 a ha) ?_
   refine gc (ahb a.m b.m (Wh.ws ha) (Wh.ws hb) (by omega) (by rcases lt_or_ge a.m.length b.m.length with h | h; (have:=agt (Wh.ws ha) b.nz h; omega); exact h) h6) ?_
   refine gc (aa4 _ _ (aa3 _) (by omega)) ?_
   refine gE1 ?_
   rw [aak,aut h0 h6]; rfl
  ·have h6:val a.m < val b.m:=by
    rcases lt_or_ge (val a.m) (val b.m) with h | h
    ·exact h
    ·rw [if_neg (by omega)] at ht23; split at ht23 <;> cases ht23
   refine gc (aa9 b hb) ?_
   refine gc (ahb b.m a.m (Wh.ws hb) (Wh.ws ha) (by omega) (by rcases lt_or_ge b.m.length a.m.length with h | h; (have:=agt (Wh.ws hb) a.nz h; omega); exact h) (by omega)) ?_
   refine gc (aa4 _ _ (aa3 _) (by omega)) ?_
   refine gE1 ?_
   rw [aak,awi h0 (by omega)]; rfl
theorem amp (a b:Wh) (ha:a.ok) (hb:b.ok) (la:a.mag.length < big) (lb:b.mag.length < big):FnC prog 228 [a.av, b.av] (zA (Int.gcd a.z b.z)):=by
 refine gF0 func228 ?_
 refine gc (abl a ha) ?_
 refine gc (abl b hb) ?_
 refine gD ?_
 refine gL2 [4] [4] (fun (x y:List Nat)=>[(5,some (ws x)),(6,some (ws y))]) (fun _ _=>[]) (fun x y=>Ws x /\ Ws y /\ Nz x /\ Nz y /\ x.length < big /\ y.length < big /\ Nat.gcd (val x) (val y) = Int.gcd a.z b.z) (fun _ y=>val y) a.m b.m ⟨Wh.ws ha,Wh.ws hb,a.nz,b.nz,Wh.small ha la,Wh.small hb lb,by rw [Int.gcd,Wh.abs,Wh.abs]⟩ ?_
 rintro x y ⟨wx,wy,nx,ny,lx,ly,hg⟩ K1 hK1
 refine gl ?_
 refine gC (fun ht15=>?_) (fun ht15=>?_)
 ·have hy : y ≠ [] := by intro h; subst h; simp [aaa] at ht15
  have hy0:=ak8 ny hy
  have hm:=Nat.mod_lt (val x) hy0
  refine gc (aiy x y wx wy nx ny hy lx ly) ?_
  exact gK2 hK1 y (ofNat (val x % val y)) ⟨wy,aa3 _,ny,akd _,ly,lt_of_le_of_lt (aai (Nat.lt_trans hm (abk y wy))) ly,by rw [aak,<- hg,Nat.gcd_comm (val x) (val y),Nat.gcd_comm (val y) (val x % val y)]; exact (Nat.gcd_rec _ _).symm⟩ (by show val (ofNat _) < val y; rw [aak]; exact hm)
 ·have hy:y = []:=by
   cases y with
   | nil=>rfl
   | cons c l=>simp [aaa] at ht15
  subst hy
  have hg':val x = Int.gcd a.z b.z:=by rw [<- hg]; simp [val]
  refine gc (aa4 false x wx (Nat.le_of_lt lx)) ?_
  refine gE1 ?_
  rw [hg']; rfl
theorem at0 (a b:Wh) (ha:a.ok) (hb:b.ok) (la:a.mag.length + 1 < big) (lb:b.mag.length < big) (h0:b.z ≠ 0):FnC prog 229 [a.av, b.av] (.tup [zA (a.z / b.z), zA (a.z % b.z), .v .nilIface]):=by
 have hm1:=Wh.m_le (w:=a)
 have hm2:=Wh.m_le (w:=b)
 have hb1:val b.m ≠ 0:=by have:=Wh.abs (w:=b); omega
 have hb2:b.m ≠ []:=fun h=>hb1 (by rw [h]; rfl)
 have hl1:(ofNat (val a.m / val b.m)).length <= a.m.length:=aai (lt_of_le_of_lt (Nat.div_le_self _ _) (abk _ (Wh.ws ha)))
 have hmod:=Nat.mod_lt (val a.m) (show 0 < val b.m by omega)
 have hl2:(ofNat (val a.m % val b.m)).length <= b.m.length:=aai (Nat.lt_trans hmod (abk _ (Wh.ws hb)))
 have hl3:(ofNat (val a.m / val b.m + 1)).length <= a.m.length + 1:=aai (by have h7:=lt_of_le_of_lt (Nat.div_le_self (val a.m) (val b.m)) (abk _ (Wh.ws ha)); rw [Nat.pow_succ]; generalize val a.m / val b.m = m at *; omega)
 have hl4:(ofNat (val b.m - val a.m % val b.m)).length <= b.m.length:=aai (by have:=abk _ (Wh.ws hb); omega)
 have hv1:val [1] = 1:=rfl
 refine gF0 func229 ?_
 refine gc (abl b hb) ?_
 refine gl ?_
 refine gC (fun ht14=>?_) (fun ht14=>?_) (st1:=(3,0))
 ·exact absurd (List.length_eq_zero_iff.1 (by simpa [aaa] using ht14)) hb2
 ·refine gc (abl a ha) ?_
  refine gc (aiy a.m b.m (Wh.ws ha) (Wh.ws hb) a.nz b.nz hb2 (by omega) (by omega)) ?_
  refine gc (aa9 a ha) ?_
  refine glG ?_
  refine gC (fun ht31=>?_) (fun ht31=>?_)
  ·have h1:a.n = true /\ 0 < val a.m % val b.m:=ao5.1 ht31
   obtain ⟨e1,e2⟩:=a00 hb1 h1.1 h1.2
   refine gc (akp (ofNat (val a.m / val b.m)) [1] (aa3 _) (avu (by omega)) (by omega) (by unfold big; simp)) ?_
   refine gc (ahb b.m (ofNat (val a.m % val b.m)) (Wh.ws hb) (aa3 _) (by omega) hl2 (by rw [aak]; omega)) ?_ (7,0)
   refine gW (Wk.of (sl:=[(2,some (.ptr 2 0)),(3,some (.ptr 3 0)),(4,some (.ptr 4 0)),(5,some (.ptr 5 0)),(8,some (ws (ofNat (val a.m / val b.m + 1)))),(9,some (ws (ofNat (val b.m - val a.m % val b.m))))]) (hp:=[(2,some (.box [bl a.neg,ws a.mag])),(3,some (.box [bl b.neg,ws b.mag])),(4,some (.box [.v (.bool false),.v (.slice none 0 0)])),(5,some (.box [.v (.bool false),.v (.slice none 0 0)]))]) (.k (.k (.k (.k (.cons rfl (Sub.of (by rw [aak,hv1])) (.cons rfl (Sub.of (by rw [aak])) .nil)))))) (.cons rfl (.refl _) (.cons rfl (.refl _) (.cons rfl (.refl _) (.cons rfl (.refl _) .nil))))) ?_
   refine gc (aa9 a ha) ?_
   refine gc (aa9 b hb) ?_
   refine gc (by apply aa4 _ _ (aa3 _) (by omega)) ?_
   refine gc (by apply aa4 _ _ (aa3 _) (by omega)) ?_
   refine gD ?_
   refine gR ?_
   exact ap6 (by rw [aak,aak,e1,show sgn false _ = _ from e2]; rfl)
  ·have h1:¬ (a.n = true /\ 0 < val a.m % val b.m):=fun h=>Bool.eq_false_iff.1 ht31 (ao5.2 h)
   obtain ⟨e1,e2⟩:=a73 hb1 h1
   refine gc (aa9 a ha) ?_
   refine gc (aa9 b hb) ?_
   refine gc (by apply aa4 _ _ (aa3 _) (by omega)) ?_
   refine gc (by apply aa4 _ _ (aa3 _) (by omega)) ?_
   refine gD ?_
   refine gR ?_
   exact ap6 (by rw [aak,aak,e1,show sgn false _ = _ from e2]; rfl)
end Go.Lw
namespace Go.Lw
open Go.Proofs
theorem a08 {N:Nat} (h:N < 18446744073709551616):val [N % 4294967296, N / 2 ^ 32] = N:=by
 simp only [val]; omega
theorem bc7 {N:Nat} (h:N < 18446744073709551616):Ws [N % 4294967296, N / 2 ^ 32]:=by
 intro x hx
 simp only [mem_cons,not_mem_nil,or_false] at hx
 rcases hx with rfl | rfl <;> omega
theorem an8 (n:Int) (h:-9223372036854775808 <= n /\ n <= 9223372036854775807):FnC prog 220 [i64 n] (zA n):=by
 obtain ⟨N,hN⟩:∃ N,N = n.natAbs:=⟨_,rfl⟩
 have hNB:N < 18446744073709551616:=by omega
 refine gF0 func220 ?_
 refine gv (show IntKind.u64.wrap n = ((n % 18446744073709551616:Int)) by simp only [IntKind.wrap,IntKind.signed,IntKind.bits,Bool.false_and,if_false,Bool.false_eq_true]; omega) ?_
 refine gC (fun ht7=>?_) (fun ht7=>?_) (st2:=(77777,0))
 ·have hn : n < 0 := by simpa [aaa] using ht7
  refine gs (beg (.tmp rfl) rfl) ?_ (4,0)
  refine gW (Wk.of (sl:=[(0,some (i64 n)),(2,some (.ptr 2 0)),(3,some (u64 N))]) (hp:=[(2,some (.box [.v (.bool false),.v (.slice none 0 0)]))]) (.k (.k (.cons rfl (Sub.int (by simp only [IntKind.wrap,IntKind.signed,IntKind.bits,Bool.false_and,if_false,Bool.false_eq_true]; omega)) .nil))) (.cons rfl (.refl _) .nil)) ?_
  refine gv (aa7 _) ?_
  refine gs (adn (.tmp rfl) (.const _) (by omega) (adp _ 32 (by omega)) rfl) ?_
  refine gv ((aa7 _).trans (by rw [Nat.mod_eq_of_lt (show N / 2 ^ 32 < 4294967296 by omega)])) ?_
  refine gc (aa4 (aaa .lss n 0) [N % 4294967296,N / 2 ^ 32] (bc7 hNB) (by unfold big; simp)) ?_
  refine gE1 ?_
  rw [a08 hNB,show sgn (aaa .lss n 0) N = n by simp only [sgn,aaa,decide_eq_true_eq]; split <;> omega]; rfl
 ·have hn : ¬ n < 0 := by simpa [aaa] using ht7
  refine gW (Wk.of (sl:=[(0,some (i64 n)),(2,some (.ptr 2 0)),(3,some (u64 N))]) (hp:=[(2,some (.box [.v (.bool false),.v (.slice none 0 0)]))]) (.k (.k (.cons rfl (Sub.int (by omega)) .nil))) (.cons rfl (.refl _) .nil)) ?_
  refine gv (aa7 _) ?_
  refine gs (adn (.tmp rfl) (.const _) (by omega) (adp _ 32 (by omega)) rfl) ?_
  refine gv ((aa7 _).trans (by rw [Nat.mod_eq_of_lt (show N / 2 ^ 32 < 4294967296 by omega)])) ?_
  refine gc (aa4 (aaa .lss n 0) [N % 4294967296,N / 2 ^ 32] (bc7 hNB) (by unfold big; simp)) ?_
  refine gE1 ?_
  rw [a08 hNB,show sgn (aaa .lss n 0) N = n by simp only [sgn,aaa,decide_eq_true_eq]; split <;> omega]; rfl
end Go.Lw
namespace Go.Lw
theorem anp:∀ (j k v:Nat), j <= k -> (adw k v).take j = adw j v
 | 0,_,_,_=>by simp [adw]
 | j + 1,0,_,h=>by omega
 | j + 1, k + 1, v, h=>by
  rw [adw,adw,List.take_succ_cons,anp j k _ (by omega)]
theorem a1p {m:List Nat} (h:Ws m):(ofNat (val m)).length <= m.length:=aai (abk m h)
theorem ax4 {m:List Nat} (h:Ws m):m.take (ofNat (val m)).length = ofNat (val m):=by
 have h1:=arp m h
 have h2:=arp (ofNat (val m)) (aa3 _)
 rw [aak] at h2
 have h3:=anp _ _ (val m) (a1p h)
 rw [<- h1,<- h2] at h3
 exact h3
theorem a6q {m:List Nat} {n:Nat} (h:Ws m) (hn:n <= m.length) (hv:val (m.take n) = val m) (h0:n = 0 \/ aab m (n - 1) ≠ 0):n = (ofNat (val m)).length:=by
 have h1:m.take n = ofNat (val m):=by
  refine a1k (ac8 h n) ?_ hv
  intro x hx
  rcases h0 with h0 | h0
  ·subst h0; simp at hx
  ·have hn0 : n ≠ 0 := by intro h3; subst h3; simp at hx
   rw [List.getLast?_eq_getElem?,length_take,Nat.min_eq_left hn,getElem?_take,if_pos (by omega),ad0 (by omega)] at hx
   cases hx; exact h0
 rw [<- h1,length_take,Nat.min_eq_left hn]
theorem a84 (l:List Nat) (i:Nat):val l = val (l.take i) + 4294967296 ^ i * val (l.drop i):=by
 rcases lt_or_ge i l.length with h | h
 ·exact aig (by omega)
 ·rw [aav h,drop_eq_nil_of_le h]; simp [val]
theorem ajm (l:List Nat) (i:Nat):val (l.drop i) = aab l i + 4294967296 * val (l.drop (i + 1)):=by
 rcases lt_or_ge i l.length with h | h
 ·exact aj7 h
 ·rw [ajw h,drop_eq_nil_of_le h,drop_eq_nil_of_le (by omega)]; rfl
theorem a1g {a b:List Nat} {i:Nat} (ha:Ws a) (he:val (a.drop (i + 1)) = val (b.drop (i + 1))) (hx:aab a i < aab b i):val a < val b:=by
 rw [a84 a (i + 1),a84 b (i + 1),he]
 have:=aqw ha hx
 omega
theorem bhx {xs ys:List AV} (hl:xs.length = ys.length) (h1:∀ (j:Nat) (y:AV), ys[j]? = some y -> y.one = true) (h:∀ (j:Nat) (x y:AV), xs[j]? = some x -> ys[j]? = some y -> Sub x y):Sub (.agg xs) (.agg ys):=by
 intro g S m v hr
 cases hr with
 | agg hn h2 hr =>
  refine .agg (hn.trans hl) h1 ?_
  intro j u c hu hc
  have hj:j < xs.length:=by
   rw [hl]
   rcases lt_or_ge j ys.length with h | h
   ·exact h
   ·rw [getElem?_eq_none h] at hc; cases hc
  exact h j _ c (getElem?_eq_getElem hj) hc _ _ _ _ (hr j u _ hu (getElem?_eq_getElem hj))
theorem bln:Sub (.agg [.v (.bool false), .v (.slice none 0 0)]) (zA 0):=by
 show Sub (.agg [.v (.bool false),.v (.slice none 0 0)]) (.agg [bl false,ws []])
 refine bhx rfl ?_ ?_
 ·intro j y hy
  match j,hy with
  | 0,hy=>cases hy; rfl
  | 1,hy=>cases hy; rfl
 ·intro j x y hx hy
  match j,hx,hy with
  | 0,hx,hy=>cases hx; cases hy; exact Sub.refl _
  | 1,hx,hy=>cases hx; cases hy; exact Sub.nil _ _ _
theorem a2l {out:List Nat} {i x:Nat} (h:out.length = i):val (out ++ [x]) = val out + 4294967296 ^ i * x:=by
 rw [agc,h]; simp [val]
theorem as6 {o c P x y u w:Nat} (hu:u < 4294967296) (hw:w < 4294967296) (hc:c <= 1) (h:o + y = x + c * P) :
  (o + P * ((4294967296 + u - w - c) % 4294967296)) + (y + P * w) = (x + P * u) + (1 - (4294967296 + u - w - c) / 2 ^ 32) * (P * 4294967296):=by
 have h0:(4294967296 + u - w - c) % 4294967296 + w + c = u + (1 - (4294967296 + u - w - c) / 2 ^ 32) * 4294967296:=by omega
 generalize (1 - (4294967296 + u - w - c) / 2 ^ 32) = q at *
 generalize (4294967296 + u - w - c) % 4294967296 = r at *
 grind
theorem aws {a b out:List Nat} {c:Nat} (ha:Ws a) (hw:Ws out) (ho:out.length = a.length) (hle:val b <= val a)
  (h:val out + val (b.take a.length) = val (a.take a.length) + c * 4294967296 ^ a.length):val out = val a - val b:=by
 have hb:=a84 b a.length
 have h2:=abk a ha
 have h3:val (b.drop a.length) = 0:=by
  rcases Nat.eq_zero_or_pos (val (b.drop a.length)) with h4 | h4
  ·exact h4
  ·have:=mul_le_mul_left (4294967296 ^ a.length) h4; omega
 rw [h3,Nat.mul_zero,Nat.add_zero] at hb
 rw [<- hb,take_length] at h
 have h1:=abk out hw
 rw [ho] at h1
 cases c with
 | zero=>omega
 | succ c=>rw [Nat.succ_mul] at h; omega
theorem a1d {z:Int} {k:Nat} (h:Lz k z) (hk:k <= acr):(ofInt z).ok:=⟨aa3 _,le_trans h.len hk⟩
theorem awt {z:Int} {k:Nat} (h:Lz k z):(ofInt z).mag.length <= k:=h.len
theorem bd2 (x y:Int):(x - y).sign = axr x y:=by
 unfold axr
 have h:=anx (x - y)
 (repeat' split) <;> omega
end Go.Lw
namespace Go.Lw
open Go.Proofs
theorem afn (m:List Nat) (i:Nat) (hm:Ws m):FnC prog 383 [ws m, i64 i] (u64 (aab m i)):=by
 refine gF0 func383 ?_
 refine gl ?_
 refine gC (fun ht8=>?_) (fun ht8=>?_)
 ·simp [aaa] at ht8
  have:=aam hm i
  refine gi (aho (i:=i) ht8) ?_
  refine gv (u64_in (by omega)) ?_
  refine gE1 ?_
  rfl
 ·simp [aaa] at ht8
  refine gE1 ?_
  simp [u64,ajw ht8]
theorem aqx (w:Wh) (h:w.ok):FnC prog 381 [w.av] (bl w.valid):=by
 have hl:w.mag.length <= acr:=h.2
 refine gF0 func381 ?_
 refine gl ?_
 refine gC (fun ht6=>?_) (fun ht6=>?_)
 ·have h0 : w.mag = [] := by simpa [aaa] using ht6
  refine gE1 ?_
  simp [bl,Wh.valid,h0]
 ·have h0 : w.mag.length ≠ 0 := by simpa [aaa] using ht6
  refine gl ?_
  refine ga (ady (by omega) (by omega)) ?_
  refine gi (aho (i:=w.mag.length - 1) (by omega)) ?_
  refine gE1 ?_
  have h1:w.mag ≠ []:=fun h=>h0 (by rw [h]; rfl)
  simp only [bl,Wh.valid,if_neg h1,List.getLast?_eq_getElem?,ad0 (show w.mag.length - 1 < w.mag.length by omega),aaa]
  congr 2
  generalize aab w.mag _ = x
  rw [Bool.eq_iff_iff]; simp
theorem adr (w:Wh) (h:w.ok):FnC prog 326 [w.av] (ws w.m):=by
 refine gF0 func326 ?_
 refine gc (aqx w h) ?_
 refine gC (fun ht5=>?_) (fun ht5=>?_)
 ·have h0 : w.valid = false := by simpa [aaa] using ht5
  refine gR ?_
  exact adc (by rw [show w.m = [] by simp [Wh.m,h0]]; exact Sub.nil _ _ _)
 ·have h0 : w.valid = true := by simpa [aaa] using ht5
  refine gE1 ?_
  simp only [Wh.m,h0]; rfl
theorem acn (w:Wh) (h:w.ok):FnC prog 327 [w.av] (bl w.n):=by
 refine gF0 func327 ?_
 refine gc (aqx w h) ?_
 refine gE1 ?_
 simp only [Wh.n,bl]; cases w.valid <;> rfl
theorem alj (d:Nat) (hd:Nat.blt d 1000 = true) (m:List Nat) (hm:Ws m) (hb:m.length <= big) :
  Con prog 377 [ws m] [] (.ms d 1 0 (ofNat (val m)).length) [(d,some (.row 1 (m.map u32)))]:=by
 have hb':=hb
 unfold big at hb
 refine gF func377 (fun k z h=>by cases h) ?_
 refine gs (acw T68 rfl T231 rfl rfl rfl) ?_
 refine gs (abu (.tmp rfl) rfl rfl (.tmp rfl) T68 rfl T231 rfl rfl (by simp only [length_map]; omega) rfl rfl) ?_
 refine gL1 [] [6] (fun (n:Nat)=>[(3,some (.ms 6 1 0 n))]) (fun _=>[]) (fun n=>n <= m.length /\ val (m.take n) = val m) (fun n=>n) m.length ⟨le_refl _,by rw [take_length]⟩ ?_ (h1:=(.cons rfl (Sub.of (by rw [length_map,Nat.zero_add])) .nil))
 rintro n ⟨hn,hv⟩ K1 hK1
 refine gaG (fun h=>(ady (by simp [aaa] at h; omega) (by unfold acr; omega))) ?_
 refine gs (acd rfl rfl rfl (fun h=>aap (n:=n - 1) (.opt rfl (o1 h)) (.opt rfl (o1 h)) T68 rfl T231 rfl (by omega) (by simp [aaa] at h; omega) rfl)) ?_
 refine gs (acd rfl rfl rfl (fun h=>aau (.opt rfl (o1 h)) rfl (aho (i:=n - 1) (by simp [aaa] at h; omega)) T231 rfl rfl rfl)) ?_
 refine gC (fun ht18=>?_) (fun ht18=>?_)
 ·have ht18 : 0 < n /\ aab m (n - 1) = 0 := by simpa [aaa] using ht18
  refine ga (ady (by omega) (by unfold acr; omega)) ?_
  refine gs (ajd (.tmp rfl) (.none _) (.some _ (.tmp rfl) (by omega)) T68 rfl T231 rfl (by omega) (by omega) rfl) ?_
  exact gK1 hK1 (n - 1) ⟨by omega,by have h:=@aag m (n - 1); rw [show n - 1 + 1 = n by omega,ht18.2] at h; simp at h; omega⟩ (hw:=Wk.of (.cons rfl (Sub.of (by congr 1)) .nil) (.cons rfl (.refl _) .nil))
 ·have ht18 : 0 < n -> aab m (n - 1) ≠ 0 := by simpa [aaa] using ht18
  have hn1:=a6q hm hn hv (by rcases Nat.eq_zero_or_pos n with h | h; (exact .inl h); exact .inr (ht18 h))
  subst hn1
  refine gR ?_
  exact Fin.own1 rfl hd rfl
theorem agf (m:List Nat) (hm:Ws m) (hb:m.length <= big):FnC prog 377 [ws m] (ws (ofNat (val m))):=by
 have h:=Con.freeze (by rw [length_map,Nat.zero_add]; exact a1p hm) (alj 0 rfl m hm hb)
 rwa [drop_zero,<- map_take,ax4 hm] at h
theorem aci (b:Bool) (m:List Nat) (hm:Ws m) (hb:m.length <= big):FnC prog 324 [bl b, ws m] (zA (sgn b (val m))):=by
 refine gF0 func324 ?_
 refine gc (agf m hm hb) ?_
 refine gl ?_
 refine gC (fun ht9=>?_) (fun ht9=>?_)
 ·have h0:val m = 0:=by
   have:=aak (val m)
   have h9:ofNat (val m) = []:=List.length_eq_zero_iff.1 (by simpa [aaa] using ht9)
   rw [h9] at this
   exact this.symm
  refine gR ?_
  exact adc (by rw [h0,show sgn b 0 = 0 by cases b <;> rfl]; exact bln)
 ·have h0:val m ≠ 0:=by
   intro h
   rw [h] at ht9
   cases ht9
  refine gE1 ?_
  rw [show zA (sgn b (val m)) = .agg [bl b, ws (ofNat (val m))] by
   unfold zA ofInt Wh.av
   rw [show (sgn b (val m)).natAbs = val m by unfold sgn; split <;> omega,show decide (sgn b (val m) < 0) = b by cases b <;> simp [sgn] <;> omega]]
theorem aia (a b:List Nat) (ha:Ws a) (hb:Ws b):FnC prog 330 [ws a, ws b] (i64 (if val a < val b then -1 else if val b < val a then 1 else 0)):=by
 refine gF0 func330 ?_ (0,0)
 refine boi (t:=0) rfl (fun hla=>?_)
 refine boi (t:=1) rfl (fun hlb=>?_)
 unfold acr at hla hlb
 refine go ?_
 refine gl ?_
 refine gl ?_
 refine gs (a27 (.tmp rfl) (.tmp rfl) rfl) ?_
 refine ga (abc (by omega)) ?_
 refine gL1 [0,1] [] (fun (n:Nat)=>[(5,some (i64 ((n:Int) - 1)))]) (fun _=>[]) (fun n=>n <= 281474976710656 /\ val (a.drop n) = val (b.drop n)) (fun n=>n) (max a.length b.length) ⟨by omega,by rw [drop_eq_nil_of_le (by omega),drop_eq_nil_of_le (by omega)]⟩ ?_ (h1:=(.cons rfl (Sub.int (by omega)) .nil))
 rintro n ⟨hn,hd⟩ K1 hK1
 refine gC (fun ht13=>?_) (fun ht13=>?_)
 ·have hn0 : 1 <= n := by have := ht13; simp [aaa] at this; omega
  obtain ⟨k,rfl⟩:∃ k,n = k + 1:=⟨n - 1,by omega⟩
  have hk:((k + 1:Nat):Int) - 1 = (k:Int):=by omega
  rw [hk]
  refine gc (afn a k ha) ?_
  refine gc (afn b k hb) ?_
  refine gC (fun ht22=>?_) (fun ht22=>?_)
  ·have h3 : aab a k ≠ aab b k := by simpa [aaa, Int.ofNat_inj] using ht22
   refine gc (afn a k ha) ?_
   refine gc (afn b k hb) ?_
   refine gC (fun ht29=>?_) (fun ht29=>?_)
   ·have h4 : aab a k < aab b k := by simpa [aaa] using ht29
    have h5:=a1g ha hd h4
    refine gE1 ?_
    simp [i64,h5]
   ·have h4 : aab b k < aab a k := by have : aab b k <= aab a k := (by simpa [aaa] using ht29); omega
    have h5:=a1g hb hd.symm h4
    refine gE1 ?_
    simp [i64,h5,Nat.lt_asymm h5]
  ·have h3 : aab a k = aab b k := by simpa [aaa, Int.ofNat_inj] using ht22
   refine ga (abc (by omega)) ?_
   exact gK1 hK1 k ⟨by omega,by rw [ajm a,ajm b,hd,h3]⟩
 ·have hn0 : n = 0 := by have := ht13; simp [aaa] at this; omega
  subst hn0
  refine gE1 ?_
  simp at hd; simp [i64,hd]
end Go.Lw
namespace Go.Lw
open Go.Proofs
theorem am3 (a b:List Nat) (ha:Ws a) (hb:Ws b) (la:a.length < big) (lb:b.length < big):FnC prog 329 [ws a, ws b] (ws (ofNat (val a + val b))):=by
 unfold big at la lb
 obtain ⟨n,hn⟩:∃ n,n = max a.length b.length + 1:=⟨_,rfl⟩
 refine gF0 func329 ?_
 refine gl ?_
 refine gl ?_
 refine gs (a27 (.tmp rfl) (.tmp rfl) rfl) ?_
 refine ga (show _ = (n:Int) by rw [aa1 (by omega)]; omega) ?_
 refine gW (Wk.virt 900 1 rfl) ?_
 refine gL3 [0,1,14] [] (fun (out:List Nat) (c i:Nat)=>[(5,some (.ms 900 1 0 i)),(6,some (u64 c)),(15,some (i64 i))]) (fun out _ _=>[(900,some (.row 1 (out.map u32)))]) (fun out c i=>out.length = i /\ i <= n /\ Ws out /\ c <= 1 /\ val out + c * 4294967296 ^ i = val (a.take i) + val (b.take i)) (fun _ _ i=>n - i) ([]) 0 0 ⟨rfl,by omega,avq,by omega,by simp [val]⟩ ?_
 rintro out c i ⟨ho,hi,hw,hc,hv⟩ K1 hK1
 refine gC (fun ht16=>?_) (fun ht16=>?_) (st2:=(9,0))
 ·have hin : i < n := by simpa [aaa] using ht16
  have h1:=aam ha i
  have h2:=aam hb i
  obtain ⟨s,hs⟩:∃ s,s = c + (aab a i + aab b i):=⟨_,rfl⟩
  have h3:=apa (u:=aab a i) (w:=aab b i) hv
  rw [<- hs] at h3
  refine gc (by apply afn <;> assumption) ?_
  refine gc (by apply afn <;> assumption) ?_
  refine ga (ae1 (by omega)) ?_
  refine ga ((ae1 (by omega)).trans (show _ = (s:Int) by congr 1; omega)) ?_
  refine gv (aa7 _) ?_
  refine gs (abu (.tmp rfl) rfl (by rw [length_map,ho]) (.tmp rfl) T68 rfl T231 rfl rfl (by simp; omega) rfl rfl) ?_
  refine gs (adn (.tmp rfl) (.const _) (by omega) (adp _ 32 (by omega)) rfl) ?_ (8,0)
  refine gW (Wk.of (sl:=[(0,some (ws a)),(1,some (ws b)),(5,some (.ms 31 1 0 (i + 1))),(6,some (u64 (s / 2 ^ 32))),(14,some (i64 n)),(15,some (i64 i))]) (hp:=[(31,some (.row 1 ((out ++ [s % 4294967296]).map u32)))]) ab0 (.cons rfl (BlkSub.of (by rw [map_append]; rfl)) .nil)) ?_ (8,0)
  refine gW (Wk.rekey (k:=31) (d:=900) rfl rfl) ?_
  refine ga (aa1 (by omega)) ?_
  exact gK3 hK1 (out ++ [s % 4294967296]) (s / 2 ^ 32) (i + 1) ⟨by simp [ho],by omega,a0l hw (avu (by omega)),by omega,by rw [a2l ho,aag,aag,Nat.pow_succ]; exact h3⟩
 ·have hin : i = n := by have : n <= i := (by simpa [aaa] using ht16); omega
  refine gW ((Wk.freeze (k:=900) rfl).trans <| Wk.of (sl:=[(5,some (ws out))]) (hp:=[]) (.cons rfl (Sub.of (ab8 (by simp [ho]))) .nil) .nil) ?_
  refine gc (agf out hw (by unfold big; omega)) ?_
  refine gE1 ?_
  subst hin
  rw [a2f ha hb hn ho (by rw [aav (l:=out) (by omega)]; exact hv)]
theorem ala (a b:List Nat) (ha:Ws a) (hb:Ws b) (la:a.length < big) (hle:val b <= val a):FnC prog 331 [ws a, ws b] (ws (ofNat (val a - val b))):=by
 unfold big at la
 obtain ⟨n,hn⟩:∃ n,n = a.length:=⟨_,rfl⟩
 refine gF0 func331 ?_
 refine gl ?_
 refine gW (Wk.virt 900 1 rfl) ?_
 refine gL3 [0,1] [] (fun (out:List Nat) (c i:Nat)=>[(5,some (.ms 900 1 0 i)),(6,some (u64 c)),(10,some (i64 n)),(11,some (i64 i))]) (fun out _ _=>[(900,some (.row 1 (out.map u32)))]) (fun out c i=>out.length = i /\ i <= n /\ Ws out /\ c <= 1 /\ val out + val (b.take i) = val (a.take i) + c * 4294967296 ^ i) (fun _ _ i=>n - i) ([]) 0 0 ⟨rfl,by omega,avq,by omega,by simp [val]⟩ ?_ (h1:=(.k (.k (.cons rfl (Sub.int (by rw [hn])) (.k .nil)))))
 rintro out c i ⟨ho,hi,hw,hc,hv⟩ K1 hK1
 refine gC (fun ht12=>?_) (fun ht12=>?_) (st2:=(9,0))
 ·have hin : i < n := by simpa [aaa] using ht12
  have h1:=aam ha i
  have h2:=aam hb i
  obtain ⟨s,hs⟩:∃ s,s = 4294967296 + aab a i - aab b i - c:=⟨_,rfl⟩
  have h3:=as6 h1 h2 hc hv
  rw [<- hs] at h3
  refine gc (by apply afn <;> assumption) ?_
  refine ga ((ae1 (x:=4294967296) (by omega))) ?_
  refine gc (by apply afn <;> assumption) ?_
  refine ga ((agp (by omega) (by omega)).trans (by rw [if_pos (by omega)])) ?_
  refine ga ((agp (by omega) (by omega)).trans (show _ = (s:Int) by rw [if_pos (by omega)]; congr 1; omega)) ?_
  refine gv (aa7 _) ?_
  refine gs (abu (.tmp rfl) rfl (by rw [length_map,ho]) (.tmp rfl) T68 rfl T231 rfl rfl (by simp; omega) rfl rfl) ?_
  refine gs (adn (.tmp rfl) (.const _) (by omega) (adp _ 32 (by omega)) rfl) ?_
  refine ga ((agp (x:=1) (by omega) (by omega)).trans (by rw [if_pos (by omega)])) ?_ (8,0)
  refine gW (Wk.of (sl:=[(0,some (ws a)),(1,some (ws b)),(5,some (.ms 28 1 0 (i + 1))),(6,some (u64 (1 - s / 2 ^ 32:Nat))),(10,some (i64 n)),(11,some (i64 i))]) (hp:=[(28,some (.row 1 ((out ++ [s % 4294967296]).map u32)))]) ab0 (.cons rfl (BlkSub.of (by rw [map_append]; rfl)) .nil)) ?_ (8,0)
  refine gW (Wk.rekey (k:=28) (d:=900) rfl rfl) ?_
  refine ga (aa1 (by omega)) ?_
  exact gK3 hK1 (out ++ [s % 4294967296]) (1 - s / 2 ^ 32) (i + 1) ⟨by simp [ho],by omega,a0l hw (avu (by omega)),by omega,by rw [a2l ho,aag,aag,Nat.pow_succ]; exact h3⟩
 ·have hin : i = n := by have : n <= i := (by simpa [aaa] using ht12); omega
  refine gW ((Wk.freeze (k:=900) rfl).trans <| Wk.of (sl:=[(5,some (ws out))]) (hp:=[]) (.cons rfl (Sub.of (ab8 (by simp [ho]))) .nil) .nil) ?_
  refine gc (agf out hw (by unfold big; omega)) ?_
  refine gE1 ?_
  subst hin
  subst hn
  rw [aws ha hw ho hle hv]
theorem az7 (a b:List Nat) (ha:Ws a) (hb:Ws b) (la:a.length + b.length <= big):FnC prog 332 [ws a, ws b] (ws (ofNat (val a * val b))):=by
 have la':=la
 unfold big at la
 refine gF0 func332 ?_
 refine gl ?_
 refine gl ?_
 refine ga (ad1 (by unfold acr; omega) (by unfold acr; omega)) ?_
 refine gs (agv (.tmp rfl) T68 rfl T231 rfl rfl (by omega) (by dsimp only; omega) rfl) ?_
 refine gl ?_
 refine gL2 [0,1,17] [] (fun (out:List Nat) (i:Nat)=>[(5,some (.ms 15 1 0 (a.length + b.length))),(18,some (i64 i))]) (fun out _=>[(15,some (.row 1 (out.map u32)))]) (fun out i=>out.length = a.length + b.length /\ i <= a.length /\ Ws out /\ val (out.take (i + b.length)) = val (a.take i) * val b) (fun _ i=>a.length - i) (List.replicate (a.length + b.length) 0) 0 ⟨by simp,by omega,akt _,by simp [val,al5]⟩ ?_ (h2:=(.cons rfl (BlkSub.of (by rw [map_replicate]; rfl)) .nil))
 rintro out i ⟨ho,hi,hw,hv⟩ K1 hK1
 refine gC (fun ht19=>?_) (fun ht19=>?_) (st2:=(14,0))
 ·have hin : i < a.length := by simpa [aaa] using ht19
  have h1:=aam ha i
  refine gl ?_
  refine gL3 [0,1,17,18,6,22] [] (fun (o:List Nat) (c k:Nat)=>[(5,some (.ms 15 1 0 (a.length + b.length))),(7,some (u64 c)),(23,some (i64 k))]) (fun o _ _=>[(15,some (.row 1 (o.map u32)))]) (fun o c k=>o.length = a.length + b.length /\ k <= b.length /\ Ws o /\ c < 4294967296 /\ val (o.take (i + b.length)) + c * 4294967296 ^ (i + k) = val (out.take (i + b.length)) + 4294967296 ^ i * (aab a i * val (b.take k))) (fun _ _ k=>b.length - k) out 0 0 ⟨ho,by omega,hw,by omega,by simp [val]⟩ ?_
  rintro o c k ⟨ho2,hk,hw2,hc,hv2⟩ K2 hK2
  refine gC (fun ht24=>?_) (fun ht24=>?_)
  ·have hkn : k < b.length := by simpa [aaa] using ht24
   have h2:=aam hb k
   have h3:=aam hw2 (i + k)
   have h4:=aox h1 h2
   obtain ⟨s,hs⟩:∃ s,s = c + (aab a i * aab b k + aab o (i + k)):=⟨_,rfl⟩
   have h5:=asr (x:=s % 4294967296) (show i + k < o.length by omega) (show i + k < i + b.length by omega)
   have h6:=a0m h5 hs hv2
   refine gi (awb (n:=i) (by omega) (by first | omega | (simp; omega))) ?_
   refine gv (u64_in (by omega)) ?_
   refine gi (awb (n:=k) (by omega) (by first | omega | (simp; omega))) ?_
   refine gv (u64_in (by omega)) ?_
   refine ga (aua (by omega)) ?_
   refine ga (ad1 (by unfold acr; omega) (by unfold acr; omega)) ?_
   refine gs (aap (n:=i + k) (.tmp rfl) (.tmp rfl) T68 rfl T231 rfl (by omega) (by first | omega | (simp; omega)) rfl) ?_
   refine gs (aau (.tmp rfl) rfl (aho (i:=i + k) (by omega)) T231 rfl rfl rfl) ?_
   refine gv (u64_in (by omega)) ?_
   refine ga (ae1 (by omega)) ?_
   refine ga ((ae1 (by omega)).trans (show _ = (s:Int) by congr 1; omega)) ?_
   refine gD ?_
   refine ga (ad1 (by unfold acr; omega) (by unfold acr; omega)) ?_
   refine gv (aa7 _) ?_
   refine gs (adn (.tmp rfl) (.const _) (by omega) (adp _ 32 (by omega)) rfl) ?_
   refine gs (aap (n:=i + k) (.tmp rfl) (.tmp rfl) T68 rfl T231 rfl (by omega) (by first | omega | (simp; omega)) rfl) ?_
   refine gs (abh (.tmp rfl) rfl (aho (i:=i + k) (by omega)) rfl (.tmp rfl) rfl rfl T231 rfl rfl) ?_
   refine ga (aa1 (by omega)) ?_
   exact gK3 hK2 (o.set (i + k) (s % 4294967296)) (s / 2 ^ 32) (k + 1) ⟨by simp [ho2],by omega,ae6 hw2 (by omega),by omega,by rw [show i + (k + 1) = (i + k) + 1 from rfl,show s / 2 ^ 32 = s / 4294967296 from rfl,Nat.pow_succ,h6,aag]; simp only [pow_add]; grind⟩ (hw:=Wk.of ab0 (.cons rfl (BlkSub.of (by rw [map_set]; rfl)) .nil))
  ·have hkn : k = b.length := by have : b.length <= k := (by simpa [aaa] using ht24); omega
   subst hkn
   have h5:=ab6 (x:=c) (show i + b.length < o.length by omega)
   rw [take_length] at hv2
   refine gl ?_
   refine ga (ad1 (by unfold acr; omega) (by unfold acr; omega)) ?_
   refine gv ((aa7 c).trans (by rw [Nat.mod_eq_of_lt hc])) ?_
   refine gs (aap (n:=i + b.length) (.tmp rfl) (.tmp rfl) T68 rfl T231 rfl (by omega) (by first | omega | (simp; omega)) rfl) ?_
   refine gs (abh (.tmp rfl) rfl (aho (i:=i + b.length) (by omega)) rfl (.tmp rfl) rfl rfl T231 rfl rfl) ?_
   refine ga (aa1 (by omega)) ?_
   exact gK2 hK1 (o.set (i + b.length) c) (i + 1) ⟨by simp [ho2],by omega,ae6 hw2 hc,by rw [show i + 1 + b.length = i + b.length + 1 by omega,h5,aag]; simp only [pow_add] at *; grind⟩ (hw:=Wk.of ab0 (.cons rfl (BlkSub.of (by rw [map_set]; rfl)) .nil))
 ·have hin : i = a.length := by have : a.length <= i := (by simpa [aaa] using ht19); omega
  subst hin
  rw [take_length,aav (by omega)] at hv
  refine gW ((Wk.freeze (k:=15) rfl).trans <| Wk.of (sl:=[(5,some (ws out))]) (hp:=[]) (.cons rfl (Sub.of (ab8 (by simp [ho]))) .nil) .nil) ?_
  refine gc (agf out hw (by omega)) ?_
  refine gE1 ?_
  rw [hv]
end Go.Lw
namespace Go.Lw
open Go.Proofs
theorem amw (a:Wh) (ha:a.ok):FnC prog 265 [a.av] (i64 a.z.sign):=by
 obtain ⟨e1,e2,e3⟩:=a0y ha
 refine gF0 func265 ?_
 refine gc (adr a ha) ?_
 refine gl ?_
 refine gC (fun ht6=>?_) (fun ht6=>?_)
 ·have h0 : a.m.length = 0 := by simpa [aaa] using ht6
  refine gE1 ?_
  rw [e1 h0]; rfl
 ·have h0 : a.m.length ≠ 0 := by simpa [aaa] using ht6
  have hval:a.valid = true:=by
   unfold Wh.m at h0
   split at h0
   ·assumption
   ·exact absurd rfl h0
  refine gc (acn a ha) ?_
  refine gC (fun ht8=>?_) (fun ht8=>?_)
  ·have h1 : a.neg = true := by unfold Wh.n at ht8; rw [hval] at ht8; simpa using ht8
   refine gE1 ?_
   rw [e2 h0 h1]; rfl
  ·have h1 : a.neg = false := by unfold Wh.n at ht8; rw [hval] at ht8; simpa using ht8
   refine gE1 ?_
   rw [e3 h0 h1]; rfl
theorem av5 (a:Wh) (ha:a.ok) (la:a.mag.length < big):FnC prog 272 [a.av] (zA (-a.z)):=by
 refine gF0 func272 ?_
 refine gc (acn a ha) ?_
 refine gc (adr a ha) ?_
 refine gc (aci _ a.m (Wh.ws ha) (Nat.le_of_lt (Wh.small ha la))) ?_
 refine gD ?_
 refine gE1 ?_
 rw [Wh.z_eq,<- a8k]; rfl
theorem a6t (a b:Wh) (ha:a.ok) (hb:b.ok) (la:a.mag.length + b.mag.length <= big):FnC prog 268 [a.av, b.av] (zA (a.z * b.z)):=by
 have h1:=Wh.m_le (w:=a)
 have h2:=Wh.m_le (w:=b)
 have h3:(ofNat (val a.m * val b.m)).length <= a.m.length + b.m.length:=aai (by rw [pow_add]; exact Nat.mul_lt_mul'' (abk _ (Wh.ws ha)) (abk _ (Wh.ws hb)))
 refine gF0 func268 ?_
 refine gc (acn a ha) ?_
 refine gc (acn b hb) ?_
 refine gc (adr a ha) ?_
 refine gc (adr b hb) ?_
 refine gc (az7 a.m b.m (Wh.ws ha) (Wh.ws hb) (by omega)) ?_
 refine gc (aci _ _ (aa3 _) (by omega)) ?_
 refine gD ?_
 refine gE1 ?_
 rw [aak,a5e]; rfl
theorem axo (a b:Wh) (ha:a.ok) (hb:b.ok) (la:a.mag.length < big) (lb:b.mag.length < big):FnC prog 267 [a.av, b.av] (zA (a.z + b.z)):=by
 have h1:=Wh.m_le (w:=a)
 have h2:=Wh.m_le (w:=b)
 have hla:val a.m < 4294967296 ^ (max a.m.length b.m.length):=lt_of_lt_of_le (abk _ (Wh.ws ha)) (Nat.pow_le_pow_right (by omega) (by omega))
 have hlb:val b.m < 4294967296 ^ (max a.m.length b.m.length):=lt_of_lt_of_le (abk _ (Wh.ws hb)) (Nat.pow_le_pow_right (by omega) (by omega))
 have h3:(ofNat (val a.m + val b.m)).length <= max a.m.length b.m.length + 1:=aai (by rw [Nat.pow_succ]; omega)
 have h4:(ofNat (val a.m - val b.m)).length <= max a.m.length b.m.length:=aai (by omega)
 have h5:(ofNat (val b.m - val a.m)).length <= max a.m.length b.m.length:=aai (by omega)
 refine gF0 func267 ?_
 refine gc (adr a ha) ?_
 refine gc (adr b hb) ?_
 refine gD ?_
 refine gc (acn a ha) ?_
 refine gc (acn b hb) ?_
 refine gD ?_
 refine gC (fun ht15=>?_) (fun ht15=>?_)
 ·have h0 : a.n = b.n := by simpa using ht15
  refine gc (acn a ha) ?_
  refine gc (am3 a.m b.m (Wh.ws ha) (Wh.ws hb) (by omega) (by omega)) ?_
  refine gc (aci _ _ (aa3 _) (by omega)) ?_
  refine gE1 ?_
  rw [aak,a1q h0]; rfl
 ·have h0 : a.n ≠ b.n := by simpa using ht15
  refine gc (aia a.m b.m (Wh.ws ha) (Wh.ws hb)) ?_
  refine gC (fun ht25=>?_) (fun ht25=>?_)
  ·have h6:val b.m <= val a.m:=by
    rcases lt_or_ge (val a.m) (val b.m) with h | h
    ·rw [if_pos h] at ht25; cases ht25
    ·exact h
   refine gc (acn a ha) ?_
   refine gc (ala a.m b.m (Wh.ws ha) (Wh.ws hb) (by omega) (by omega)) ?_
   refine gc (aci _ _ (aa3 _) (by omega)) ?_
   refine gE1 ?_
   rw [aak,aut h0 h6]; rfl
  ·have h6:val a.m < val b.m:=by
    rcases lt_or_ge (val a.m) (val b.m) with h | h
    ·exact h
    ·rw [if_neg (by omega)] at ht25; split at ht25 <;> cases ht25
   refine gc (acn b hb) ?_
   refine gc (ala b.m a.m (Wh.ws hb) (Wh.ws ha) (by omega) (by omega)) ?_
   refine gc (aci _ _ (aa3 _) (by omega)) ?_
   refine gE1 ?_
   rw [aak,awi h0 (by omega)]; rfl
theorem a1u (n:Int) (h:-9223372036854775808 <= n /\ n <= 9223372036854775807):FnC prog 269 [i64 n] (zA n):=by
 obtain ⟨N,hN⟩:∃ N,N = n.natAbs:=⟨_,rfl⟩
 have hNB:N < 18446744073709551616:=by omega
 refine gF0 func269 ?_
 refine gv (show IntKind.u64.wrap n = ((n % 18446744073709551616:Int)) by simp only [IntKind.wrap,IntKind.signed,IntKind.bits,Bool.false_and,if_false,Bool.false_eq_true]; omega) ?_
 refine gC (fun ht7=>?_) (fun ht7=>?_) (st2:=(77777,0))
 ·have hn : n < 0 := by simpa [aaa] using ht7
  refine gs (beg (.tmp rfl) rfl) ?_ (4,0)
  refine gW (Wk.of (sl:=[(0,some (i64 n)),(2,some (.ptr 2 0)),(3,some (u64 N))]) (hp:=[(2,some (.box [.v (.bool false),.v (.slice none 0 0)]))]) (.k (.k (.cons rfl (Sub.int (by simp only [IntKind.wrap,IntKind.signed,IntKind.bits,Bool.false_and,if_false,Bool.false_eq_true]; omega)) .nil))) (.cons rfl (.refl _) .nil)) ?_
  refine gv (aa7 _) ?_
  refine gs (adn (.tmp rfl) (.const _) (by omega) (adp _ 32 (by omega)) rfl) ?_
  refine gv ((aa7 _).trans (by rw [Nat.mod_eq_of_lt (show N / 2 ^ 32 < 4294967296 by omega)])) ?_
  refine gc (aci (aaa .lss n 0) [N % 4294967296,N / 2 ^ 32] (bc7 hNB) (by unfold big; simp)) ?_
  refine gE1 ?_
  rw [a08 hNB,show sgn (aaa .lss n 0) N = n by simp only [sgn,aaa,decide_eq_true_eq]; split <;> omega]; rfl
 ·have hn : ¬ n < 0 := by simpa [aaa] using ht7
  refine gW (Wk.of (sl:=[(0,some (i64 n)),(2,some (.ptr 2 0)),(3,some (u64 N))]) (hp:=[(2,some (.box [.v (.bool false),.v (.slice none 0 0)]))]) (.k (.k (.cons rfl (Sub.int (by omega)) .nil))) (.cons rfl (.refl _) .nil)) ?_
  refine gv (aa7 _) ?_
  refine gs (adn (.tmp rfl) (.const _) (by omega) (adp _ 32 (by omega)) rfl) ?_
  refine gv ((aa7 _).trans (by rw [Nat.mod_eq_of_lt (show N / 2 ^ 32 < 4294967296 by omega)])) ?_
  refine gc (aci (aaa .lss n 0) [N % 4294967296,N / 2 ^ 32] (bc7 hNB) (by unfold big; simp)) ?_
  refine gE1 ?_
  rw [a08 hNB,show sgn (aaa .lss n 0) N = n by simp only [sgn,aaa,decide_eq_true_eq]; split <;> omega]; rfl
theorem a6r (a b:Wh) (ha:a.ok) (hb:b.ok) (la:a.mag.length < big) (lb:b.mag.length < big):FnC prog 323 [a.av, b.av] (zA (a.z - b.z)):=by
 have h1:=(Wh.lz hb).neg
 have h2:=awt h1
 refine gF0 func323 ?_
 refine gc (av5 b hb lb) ?_
 refine gc (axo a (ofInt (-b.z)) ha (a1d h1 hb.2) la (by omega)) ?_
 refine gD ?_
 refine gE1 ?_
 rw [abr,<- Int.sub_eq_add_neg]; rfl
theorem a91 (a b:Wh) (ha:a.ok) (hb:b.ok) (la:a.mag.length < big) (lb:b.mag.length < big):FnC prog 261 [a.av, b.av] (i64 (axr a.z b.z)):=by
 have h1:=(Wh.lz ha).sub (Wh.lz hb)
 have h2:=awt h1
 refine gF0 func261 ?_
 refine gc (a6r a b ha hb la lb) ?_
 refine gc (amw (ofInt (a.z - b.z)) (a1d h1 (by unfold acr; unfold big at la lb; omega))) ?_
 refine gE1 ?_
 rw [abr,bd2]
end Go.Lw
namespace Go.Lw
theorem aj8 {A:List Nat} {n:Nat}:AV.lst 1 (((A.map u32).drop 0).take n) = ws (A.take n):=by
 rw [drop_zero,<- map_take]; rfl
theorem bgm (A:List Nat):(Blk.row 1 (A.map u32)).sc = true:=by
 simp only [Blk.sc,List.all_map]
 rw [all_eq_true]
 intro x _
 rfl
theorem ae8 {A:List Nat} {n i:Nat} (h:i < n):aab (A.take n) i = aab A i:=by
 simp [aab,h]
theorem amt {A:List Nat} {n i:Nat} (h:n <= i):aab (A.take n) i = 0:=ajw (by simp; omega)
theorem a6m {x:Nat} (h:0 < x):acy x = acy (x / 2) + 1:=by
 rcases lt_or_ge x 2 with h1 | h1
 ·have : x = 1 := by omega
  subst this; decide
 ·have := amq (x := x) (k := 1) (by omega)
  rw [show x / 2 ^ 1 = x / 2 from rfl] at this
  omega
theorem bef {a:List Nat} {n:Nat} (ha:Ws a) (na:Nz a) (hl:a.length = n + 1):acy (val a) = 32 * n + acy (aab a n):=by
 have ht:aab a n ≠ 0:=by
  refine na _ ?_
  rw [List.getLast?_eq_getElem?,hl]
  exact ad0 (by omega)
 have hv:val a = val (a.take n) + 4294967296 ^ n * aab a n:=by rw [<- aag,aav (by omega)]
 have hlt:=aej ha n
 have hp:(4294967296:Nat) ^ n = 2 ^ (32 * n):=by rw [Nat.pow_mul]
 rw [hp] at hv hlt
 have h1:val a / 2 ^ (32 * n) = aab a n:=by
  rw [hv,Nat.add_mul_div_left _ _ (Nat.pow_pos (by omega)),Nat.div_eq_of_lt hlt,Nat.zero_add]
 have h2:2 ^ (32 * n) <= val a:=by
  have:=mul_le_mul_left (2 ^ (32 * n)) (show 1 <= aab a n by omega)
  omega
 rw [amq h2,h1]
theorem wr0 {o A:List Nat} {n v:Nat} (ho:Ws o) (hl:o.length = A.length) (hn:n <= A.length) (hd:o.drop n = A.drop n) (hv:val (o.take n) = v):o = wr A 0 (adw n v):=by
 have h1:win o 0 n = adw n v:=atm (aog ho _ _) (alb (by omega)) (by rw [win,drop_zero,hv])
 rw [<- h1]
 exact bio (by simp) (by rw [Nat.zero_add]; exact hd) (by omega)
end Go.Lw
namespace Go.Lw
open Go.Proofs
theorem apo (k:Nat) (A:List Nat) (n i:Nat) (hA:Ws A) (hn:n <= A.length) :
  Con prog 383 [.ms k 1 0 n,i64 i] [(k,some (.row 1 (A.map u32)))] (u64 (aab (A.take n) i)) [(k,some (.row 1 (A.map u32)))]:=by
 refine Con.borrow (args:=[ws (A.take n),i64 i]) k 1 (A.map u32) rfl rfl rfl ?_ rfl (fun k' x h=>by cases h) (afn (A.take n) i (ac8 hA n))
 intro j x' hj
 match j,hj with
 | 0,hj=>cases hj; exact .inr ⟨0,n,rfl,by simpa using hn,by rw [aj8]; rfl⟩
 | 1,hj=>cases hj; exact .inl rfl
theorem art (k1 k2:Nat) (hk:k1 ≠ k2) (A D:List Nat) (n p:Nat) (hA:Ws A) (hD:Ws D) (hn:n <= A.length) (hp:p <= D.length) :
  Con prog 330 [.ms k1 1 0 n, .ms k2 1 0 p] [(k1, some (.row 1 (A.map u32))), (k2, some (.row 1 (D.map u32)))]
   (i64 (if val (A.take n) < val (D.take p) then -1 else if val (D.take p) < val (A.take n) then 1 else 0)) [(k1,some (.row 1 (A.map u32))),(k2,some (.row 1 (D.map u32)))]:=by
 have h1:Con prog 330 [ws (A.take n), .ms k2 1 0 p] [(k2, some (.row 1 (D.map u32)))]
   (i64 (if val (A.take n) < val (D.take p) then -1 else if val (D.take p) < val (A.take n) then 1 else 0)) [(k2,some (.row 1 (D.map u32)))]:=by
  refine Con.borrow (args:=[ws (A.take n),ws (D.take p)]) k2 1 (D.map u32) rfl rfl rfl ?_ rfl (fun k' x h=>by cases h) (aia (A.take n) (D.take p) (ac8 hA n) (ac8 hD p))
  intro j x' hj
  match j,hj with
  | 0,hj=>cases hj; exact .inl rfl
  | 1,hj=>cases hj; exact .inr ⟨0,p,rfl,by simpa using hp,by rw [aj8]; rfl⟩
 refine Con.borrow (args:=[ws (A.take n),.ms k2 1 0 p]) k1 1 (A.map u32) ?_ ?_ rfl ?_ rfl ?_ h1
 ·rw [aac,if_neg hk]; rfl
 ·rw [aac,if_neg hk]; rfl
 ·intro j x' hj
  match j,hj with
  | 0,hj=>cases hj; exact .inr ⟨0,n,rfl,by simpa using hn,by rw [aj8]; rfl⟩
  | 1,hj=>cases hj; exact .inl rfl
 ·intro k' x h
  obtain ⟨_,h⟩:=ae7 h
  cases h; exact bgm D
theorem aru (k:Nat) (A b:List Nat) (n:Nat) (hA:Ws A) (hb:Ws b) (hn:n <= A.length) :
  Con prog 330 [.ms k 1 0 n, ws b] [(k, some (.row 1 (A.map u32)))]
   (i64 (if val (A.take n) < val b then -1 else if val b < val (A.take n) then 1 else 0)) [(k,some (.row 1 (A.map u32)))]:=by
 refine Con.borrow (args:=[ws (A.take n),ws b]) k 1 (A.map u32) rfl rfl rfl ?_ rfl (fun k' x h=>by cases h) (aia (A.take n) b (ac8 hA n) hb)
 intro j x' hj
 match j,hj with
 | 0,hj=>cases hj; exact .inr ⟨0,n,rfl,by simpa using hn,by rw [aj8]; rfl⟩
 | 1,hj=>cases hj; exact .inl rfl
theorem a4l (a:List Nat) (ha:Ws a) (na:Nz a) (la:a.length <= big):FnC prog 395 [ws a] (i64 (acy (val a))):=by
 unfold big at la
 refine gF0 func395 ?_
 refine gl ?_
 refine gC (fun ht7=>?_) (fun ht7=>?_)
 ·have h0 : a = [] := List.length_eq_zero_iff.1 (by simpa [aaa] using ht7)
  refine gE1 ?_
  subst h0; rfl
 ·have h0 : a.length ≠ 0 := by simpa [aaa] using ht7
  obtain ⟨n,hn⟩:∃ n,a.length = n + 1:=⟨a.length - 1,by omega⟩
  have hB:=bef ha na hn
  have ht:=aam ha n
  refine gl ?_
  refine ga (show _ = (n:Int) by rw [abc (by omega)]; omega) ?_
  refine ga (show _ = ((32 * n:Nat):Int) by rw [a02 (by omega)]; omega) ?_
  refine gl ?_
  refine ga (show _ = (n:Int) by rw [abc (by omega)]; omega) ?_
  refine gi (awb (n:=n) (by omega) (by first | omega | (simp; omega))) ?_
  refine gL2 [] [] (fun (x c:Nat)=>[(3,some (i64 c)),(4,some (u32 x))]) (fun _ _=>[]) (fun x c=>x < 4294967296 /\ c <= 281474976710656 /\ c + acy x = acy (val a)) (fun x _=>x) (aab a n) (32 * n) ⟨ht,by omega,hB.symm⟩ ?_
  rintro x c ⟨hx,hc,hv⟩ K1 hK1
  refine gC (fun ht19=>?_) (fun ht19=>?_)
  ·have hx0 : 0 < x := by simpa [aaa] using ht19
   have h2:=a6m hx0
   have h3:acy (val a) <= 32 * n + 32:=by
    have:=(azq (x:=aab a n)  (by
     refine na _ ?_
     rw [List.getLast?_eq_getElem?,hn]
     exact ad0 (by omega)) ht).1
    omega
   refine ga (show _ = ((c + 1:Nat):Int) by rw [aa1 (by omega)]; omega) ?_
   refine gs (adn (.tmp rfl) (.const _) (by omega) (an0 x 1 (by omega)) rfl) ?_
   exact gK2 hK1 (x / 2 ^ 1) (c + 1) ⟨by omega,by omega,by rw [show x / 2 ^ 1 = x / 2 from rfl]; omega⟩
  ·have hx0 : x = 0 := by have : x <= 0 := (by simpa [aaa] using ht19); omega
   subst hx0
   refine gE1 ?_
   rw [<- hv]; rfl
theorem aqv (A:List Nat) (n:Nat) (hA:Ws A) (hn:n <= A.length) (la:A.length <= big) :
  Con prog 380 [.ms 1000 1 0 n] [(1000,some (.row 1 (A.map u32)))] (.ms 1000 1 0 (ofNat (val (A.take n))).length) [(1000,some (.row 1 (A.map u32)))]:=by
 unfold big at la
 refine gF func380 (fun k z h=>acf h) ?_
 refine gL1 [] [1000] (fun (j:Nat)=>[(0,some (.ms 1000 1 0 j))]) (fun _=>[]) (fun j=>j <= n /\ val (A.take j) = val (A.take n)) (fun j=>j) n ⟨le_refl _,rfl⟩ ?_
 rintro j ⟨hj,hv⟩ K1 hK1
 refine gaG (fun h=>(ady (by simp [aaa] at h; omega) (by unfold acr; omega))) ?_
 refine gs (acd rfl rfl rfl (fun h=>aap (n:=j - 1) (.opt rfl (o1 h)) (.opt rfl (o1 h)) T68 rfl T231 rfl (by omega) (by simp [aaa] at h; omega) rfl)) ?_
 refine gs (acd rfl rfl rfl (fun h=>aau (.opt rfl (o1 h)) rfl (aho (i:=j - 1) (by simp [aaa] at h; omega)) T231 rfl rfl rfl)) ?_
 refine gC (fun ht14=>?_) (fun ht14=>?_)
 ·have ht14 : 0 < j /\ aab A (j - 1) = 0 := by simpa [aaa] using ht14
  refine ga (ady (by omega) (by unfold acr; omega)) ?_
  refine gs (ajd (.tmp rfl) (.none _) (.some _ (.tmp rfl) (by omega)) T68 rfl T231 rfl (by omega) (by omega) rfl) ?_
  exact gK1 hK1 (j - 1) ⟨by omega,by have h:=@aag A (j - 1); rw [show j - 1 + 1 = j by omega,ht14.2] at h; simp at h; omega⟩ (hw:=Wk.of (.cons rfl (Sub.of (by congr 1)) .nil) (.cons rfl (.refl _) .nil))
 ·have ht14 : 0 < j -> aab A (j - 1) ≠ 0 := by simpa [aaa] using ht14
  have hn1 := a6q (m := A.take n) (n := j) (ac8 hA n) (by simp; omega) (by rw [List.take_take, Nat.min_eq_left hj]; exact hv) (by
   rcases Nat.eq_zero_or_pos j with h | h
   ·exact .inl h
   ·exact .inr (by rw [ae8 (by omega)]; exact ht14 h))
  subst hn1
  refine gR ?_
  exact Fin.own2 rfl rfl rfl
theorem aiu (A:List Nat) (n:Nat) (hA:Ws A) (hn:n <= A.length) (la:A.length <= big) :
  Con prog 378 [.ms 1000 1 0 n] [(1000,some (.row 1 (A.map u32)))] (.ms 1000 1 0 (ofNat (val (A.take n) / 2)).length) [(1000,some (.row 1 ((wr A 0 (adw n (val (A.take n) / 2))).map u32)))]:=by
 have la':=la
 unfold big at la
 refine gF func378 (fun k z h=>acf h) ?_
 refine gL2 [5] [] (fun (o:List Nat) (i:Nat)=>[(0,some (.ms 1000 1 0 n)),(6,some (i64 i))]) (fun o _=>[(1000,some (.row 1 (o.map u32)))]) (fun o i=>o.length = A.length /\ i <= n /\ Ws o /\ o.drop i = A.drop i /\ val (o.take i) = val (A.take n) / 2 ^ 1 % 4294967296 ^ i) (fun _ i=>n - i) A 0 ⟨rfl,by omega,hA,rfl,by simp [val,Nat.mod_one]⟩ ?_
 rintro o i ⟨ho,hi,hw,hd,hv⟩ K1 hK1
 refine gC (fun ht7=>?_) (fun ht7=>?_)
 ·have hin : i < n := by simpa [aaa] using ht7
  have e1:aab (o.take n) i = aab (A.take n) i:=by rw [ae8 hin,ae8 hin]; exact aep hd
  have hd2:o.drop (i + 1) = A.drop (i + 1):=by
   have h1:(o.drop i).drop 1 = (A.drop i).drop 1:=by rw [hd]
   rwa [drop_drop,drop_drop] at h1
  have e2:aab (o.take n) (i + 1) = aab (A.take n) (i + 1):=by
   rcases lt_or_ge (i + 1) n with h | h
   ·rw [ae8 h,ae8 h]; exact aep hd2
   ·rw [amt h,amt h]
  have b1:=aam (ac8 hA n) i
  have b2:=aam (ac8 hA n) (i + 1)
  have h3:=axc (n:=1) (ac8 hA n) (show i < (A.take n).length by simp; omega) (show i < o.length by omega) (by omega) hv
  refine gt (aad (apo 1000 o n i hw (by omega)) (.cons (.tmp rfl) (.cons (.tmp rfl) .nil)) (by first | exact hH0 | exact hH1 rfl | exact hH2 rfl rfl) rfl rfl) ?_
  refine gs (adn (.tmp rfl) (.const _) (by omega) ((adp _ 1 (by omega)).trans (by rw [e1])) rfl) ?_
  refine ga (ad1 (y:=1) (by unfold acr; omega) (by unfold acr; omega)) ?_
  refine gt (aad (apo 1000 o n (i + 1) hw (by omega)) (.cons (.tmp rfl) (.cons (.tmp rfl) .nil)) (by first | exact hH0 | exact hH1 rfl | exact hH2 rfl rfl) rfl rfl) ?_
  refine gs (ag5 (.tmp rfl) (.const _) (by omega) ((am8 (n:=31) (by omega) (by omega)).trans (by rw [e2])) rfl) ?_
  refine gs (afg (.tmp rfl) (.tmp rfl) rfl ((ah3 (by omega) (by omega)).trans (by rw [ayx (by omega)])) rfl) ?_
  refine gv ((aa7 _).trans (show _ = (((aab (A.take n) i + aab (A.take n) (i + 1) * 2 ^ 32) / 2 ^ 1 % 4294967296:Nat):Int) by congr 1; omega)) ?_
  refine gs (aap (n:=i) (.tmp rfl) (.tmp rfl) T68 rfl T231 rfl (by omega) (by first | omega | (simp; omega)) rfl) ?_
  refine gs (abh (.tmp rfl) rfl (aho (i:=i) (by omega)) rfl (.tmp rfl) rfl rfl T231 rfl rfl) ?_
  refine ga (aa1 (by omega)) ?_
  exact gK2 hK1 (o.set i ((aab (A.take n) i + aab (A.take n) (i + 1) * 2 ^ 32) / 2 ^ 1 % 4294967296)) (i + 1) ⟨by simp [ho],by omega,ae6 hw (by omega),aez hd,h3⟩ (hw:=Wk.of ab0 (.cons rfl (BlkSub.of (by rw [map_set]; rfl)) .nil))
 ·have hin : i = n := by have : n <= i := (by simpa [aaa] using ht7); omega
  subst hin
  have hlt:=aej hA i
  have hv':val (o.take i) = val (A.take i) / 2:=by rw [hv,Nat.mod_eq_of_lt (by omega)]
  have h9:=wr0 hw ho hn hd hv'
  refine gt (aad (aqv o i hw (by omega) (by omega)) (.cons (.tmp rfl) .nil) (by first | exact hH0 | exact hH1 rfl | exact hH2 rfl rfl) rfl rfl) ?_
  refine gR ?_
  exact Fin.own2 rfl (by rw [<- h9]) (by rw [hv']; rfl)
theorem ask (A b:List Nat) (n:Nat) (hA:Ws A) (hb:Ws b) (hn:n <= A.length) (la:A.length <= big) (hle:val b <= val (A.take n)) :
  Con prog 379 [.ms 1000 1 0 n,ws b] [(1000,some (.row 1 (A.map u32)))] (.tup []) [(1000,some (.row 1 ((wr A 0 (adw n (val (A.take n) - val b))).map u32)))]:=by
 unfold big at la
 refine gF func379 (fun k z h=>acf h) ?_
 refine gL3 [1,8] [] (fun (o:List Nat) (c i:Nat)=>[(0,some (.ms 1000 1 0 n)),(4,some (u64 c)),(9,some (i64 i))]) (fun o _ _=>[(1000,some (.row 1 (o.map u32)))]) (fun o c i=>o.length = A.length /\ i <= n /\ Ws o /\ c <= 1 /\ o.drop i = A.drop i /\ val (o.take i) + val (b.take i) = val (A.take i) + c * 4294967296 ^ i) (fun _ _ i=>n - i) A 0 0 ⟨rfl,by omega,hA,by omega,rfl,by simp [val]⟩ ?_
 rintro o c i ⟨ho,hi,hw,hc,hd,hv⟩ K1 hK1
 refine gC (fun ht10=>?_) (fun ht10=>?_)
 ·have hin : i < n := by simpa [aaa] using ht10
  have e1:aab (o.take n) i = aab A i:=by rw [ae8 hin]; exact aep hd
  have h1:=aam hA i
  have h2:=aam hb i
  obtain ⟨s,hs⟩:∃ s,s = 4294967296 + aab A i - aab b i - c:=⟨_,rfl⟩
  have h3:=as6 h1 h2 hc hv
  rw [<- hs] at h3
  refine gt (aad (apo 1000 o n i hw (by omega)) (.cons (.tmp rfl) (.cons (.tmp rfl) .nil)) (by first | exact hH0 | exact hH1 rfl | exact hH2 rfl rfl) rfl rfl) ?_
  refine ga ((ae1 (x:=4294967296) (by omega)).trans (by rw [e1])) ?_
  refine gc (afn b i hb) ?_
  refine ga ((agp (by omega) (by omega)).trans (by rw [if_pos (by omega)])) ?_
  refine ga ((agp (by omega) (by omega)).trans (show _ = (s:Int) by rw [if_pos (by omega)]; congr 1; omega)) ?_
  refine gv (aa7 _) ?_
  refine gs (adn (.tmp rfl) (.const _) (by omega) (adp _ 32 (by omega)) rfl) ?_
  refine ga ((agp (x:=1) (by omega) (by omega)).trans (by rw [if_pos (by omega)])) ?_
  refine gs (aap (n:=i) (.tmp rfl) (.tmp rfl) T68 rfl T231 rfl (by omega) (by first | omega | (simp; omega)) rfl) ?_
  refine gs (abh (.tmp rfl) rfl (aho (i:=i) (by omega)) rfl (.tmp rfl) rfl rfl T231 rfl rfl) ?_
  refine ga (aa1 (by omega)) ?_
  exact gK3 hK1 (o.set i (s % 4294967296)) (1 - s / 2 ^ 32) (i + 1) ⟨by simp [ho],by omega,ae6 hw (by omega),by omega,aez hd,by rw [ab6 (by omega),aag,aag,Nat.pow_succ]; exact h3⟩ (hw:=Wk.of ab0 (.cons rfl (BlkSub.of (by rw [map_set]; rfl)) .nil))
 ·have hin : i = n := by have : n <= i := (by simpa [aaa] using ht10); omega
  subst hin
  have hl:(A.take i).length = i:=by simp; omega
  have h4:=aws (a:=A.take i) (b:=b) (out:=o.take i) (ac8 hA i) (ac8 hw i) (by simp; omega) hle (by rw [hl,take_of_length_le (show (A.take i).length <= i by omega)]; exact hv)
  have h9:=wr0 hw ho hn hd h4
  refine gR ?_
  exact Fin.own2 rfl (by rw [<- h9]) rfl
end Go.Lw
namespace Go.Lw
theorem avi {x:Nat} (h:x <= 9223372036854775807):IntKind.i64.wrap ((x:Int).tdiv 32) = ((x / 32:Nat):Int):=by
 rw [show (32:Int) = ((32:Nat):Int) from rfl,<- Int.ofNat_tdiv]
 exact i64_in (by omega)
theorem bli {x:Nat}:(x:Int).tmod 32 = ((x % 32:Nat):Int):=(Int.ofNat_tmod _ _).symm
theorem a8u (i:Nat):(4294967296:Nat) ^ i = 2 ^ (32 * i):=by rw [Nat.pow_mul]
theorem bm1 {a:List Nat} (ha:Ws a) {k:Nat} (hk:k / 32 < a.length):aab a (k / 32) / 2 ^ (k % 32) % 2 = val a / 2 ^ k % 2:=by
 have h1:val a / 2 ^ k = (val a / 4294967296 ^ (k / 32)) / 2 ^ (k % 32):=by
  rw [a8u,Nat.div_div_eq_div_mul,<- pow_add]; congr 2; omega
 rw [h1,aul ha _ (by omega),ajm]
 generalize val (a.drop (k / 32 + 1)) = R
 have h2:4294967296 * R = 2 ^ (k % 32) * (2 * (2 ^ (31 - k % 32) * R)):=by
  have:(4294967296:Nat) = 2 ^ (k % 32) * (2 * 2 ^ (31 - k % 32)):=by
   rw [<- Nat.pow_succ',<- pow_add,show k % 32 + (31 - k % 32).succ = 32 by omega]
  conv=>lhs; rw [this]
  grind
 rw [h2,Nat.add_mul_div_left _ _ (Nat.pow_pos (by omega)),Nat.add_mul_mod_self_left]
theorem bns {w c:Nat} (hc:c <= 1):w * 2 ^ 1 % 4294967296 ||| c = w * 2 ^ 1 % 4294967296 + c:=by
 have h:w * 2 ^ 1 % 4294967296 = (w % 2147483648) * 2 ^ 1:=by omega
 rw [h]; exact avt (by omega)
theorem bc2 {o c P rt w bit:Nat} (hw:w < 4294967296) (h:o + c * P = 2 * rt + bit) :
  (o + P * (w * 2 ^ 1 % 4294967296 + c)) + (w / 2 ^ 31) * (P * 4294967296) = 2 * (rt + P * w) + bit:=by
 have h0:w * 2 ^ 1 % 4294967296 + (w / 2 ^ 31) * 4294967296 = 2 * w:=by omega
 generalize w * 2 ^ 1 % 4294967296 = r at *
 generalize w / 2 ^ 31 = q at *
 grind
theorem bdo {q:List Nat} (hq:Ws q) {k Y:Nat} (hk:k / 32 < q.length) (h:val q = 2 ^ (k + 1) * Y) :
  aab q (k / 32) ||| 2 ^ (k % 32) = aab q (k / 32) + 2 ^ (k % 32) /\ aab q (k / 32) + 2 ^ (k % 32) < 4294967296:=by
 have h1:=aul hq (k / 32) (by omega)
 rw [ajm,h,a8u,show k + 1 = 32 * (k / 32) + (k % 32 + 1) by omega,pow_add,Nat.mul_assoc,Nat.mul_div_cancel_left _ (Nat.pow_pos (by omega))] at h1
 have hw:=aam hq (k / 32)
 generalize aab q (k / 32) = w at *
 generalize val (q.drop (k / 32 + 1)) = R at *
 have hB:(4294967296:Nat) = 2 ^ (k % 32 + 1) * 2 ^ (31 - k % 32):=by
  rw [<- pow_add,show k % 32 + 1 + (31 - k % 32) = 32 by omega]
 have h2:w % 2 ^ (k % 32 + 1) = 0:=by
  have h3:(w + 4294967296 * R) % 2 ^ (k % 32 + 1) = 0:=by rw [<- h1]; exact Nat.mul_mod_right _ _
  rw [hB,Nat.mul_assoc,Nat.add_mul_mod_self_left] at h3
  exact h3
 have h4:w = 2 ^ (k % 32 + 1) * (w / 2 ^ (k % 32 + 1)):=by
  have:=Nat.div_add_mod w (2 ^ (k % 32 + 1)); omega
 have h5:2 ^ (k % 32) < 2 ^ (k % 32 + 1):=by rw [Nat.pow_succ]; have:=Nat.pow_pos (n:=k % 32) (show 0 < 2 by omega); omega
 constructor
 ·rw [h4]; exact (Nat.two_pow_add_eq_or_of_lt h5 _).symm
 ·have h6:w / 2 ^ (k % 32 + 1) < 2 ^ (31 - k % 32):=by
   rw [Nat.div_lt_iff_lt_mul (Nat.pow_pos (by omega)),Nat.mul_comm,<- hB]; exact hw
  have h7:=mul_le_mul_left (2 ^ (k % 32 + 1)) (show w / 2 ^ (k % 32 + 1) + 1 <= 2 ^ (31 - k % 32) from h6)
  rw [<- hB,Nat.mul_add,<- h4] at h7
  omega
theorem biy {q:List Nat} (hq:Ws q) {k Y:Nat} (hk:k / 32 < q.length) (h:val q = 2 ^ (k + 1) * Y) :
  val (q.set (k / 32) (aab q (k / 32) + 2 ^ (k % 32))) = 2 ^ k * (2 * Y + 1):=by
 have h1:=azo (x:=aab q (k / 32) + 2 ^ (k % 32)) hk
 rw [Nat.mul_add] at h1
 have h2:4294967296 ^ (k / 32) * 2 ^ (k % 32) = 2 ^ k:=by rw [a8u,<- pow_add]; congr 1; omega
 rw [h2,h,Nat.pow_succ] at h1
 grind
theorem bje {V Bv k:Nat} (hB:0 < Bv) :
  (Bv <= 2 * (V / 2 ^ (k + 1) % Bv) + V / 2 ^ k % 2 -> V / 2 ^ k % Bv = 2 * (V / 2 ^ (k + 1) % Bv) + V / 2 ^ k % 2 - Bv /\ V / 2 ^ k / Bv = 2 * (V / 2 ^ (k + 1) / Bv) + 1) /\
  (2 * (V / 2 ^ (k + 1) % Bv) + V / 2 ^ k % 2 < Bv -> V / 2 ^ k % Bv = 2 * (V / 2 ^ (k + 1) % Bv) + V / 2 ^ k % 2 /\ V / 2 ^ k / Bv = 2 * (V / 2 ^ (k + 1) / Bv)):=by
 have h1:V / 2 ^ (k + 1) = V / 2 ^ k / 2:=by rw [Nat.pow_succ,Nat.div_div_eq_div_mul]
 rw [h1]
 generalize V / 2 ^ k = X
 have h2:=Nat.div_add_mod X 2
 have h3:=Nat.div_add_mod (X / 2) Bv
 have h4:=Nat.mod_lt (X / 2) hB
 have h5:=Nat.mod_lt X (show 0 < 2 by omega)
 generalize X / 2 % Bv = r at *
 generalize X / 2 / Bv = q at *
 generalize X % 2 = b at *
 generalize X / 2 = Y at *
 constructor
 ·intro h
  have:=aka (a:=X) (w:=Bv) (q:=2 * q + 1) (r:=2 * r + b - Bv) (by rw [Nat.mul_add,Nat.mul_one,show Bv * (2 * q) = 2 * (Bv * q) by grind]; omega) (by omega)
  exact ⟨this.2,this.1⟩
 ·intro h
  have:=aka (a:=X) (w:=Bv) (q:=2 * q) (r:=2 * r + b) (by rw [show Bv * (2 * q) = 2 * (Bv * q) by grind]; omega) (by omega)
  exact ⟨this.2,this.1⟩
theorem blr {A l:List Nat} (h:l.length = A.length):wr A 0 l = l:=by
 unfold wr
 rw [drop_eq_nil_of_le (by omega)]; simp
theorem a1t {V:Nat}:V / 2 ^ acy V = 0:=Nat.div_eq_of_lt ato
theorem bgk {a:List Nat} (ha:Ws a) {k:Nat} (h:k < acy (val a)):k / 32 < a.length:=by
 rcases lt_or_ge (k / 32) a.length with h1 | h1
 ·exact h1
 ·exfalso
  have h2:=abk a ha
  rw [a8u] at h2
  have h3:val a ≠ 0:=by intro h0; rw [h0] at h; simp [acy] at h
  have h4:=atx h3
  have h5:2 ^ (32 * a.length) <= 2 ^ (acy (val a) - 1):=afb (by omega)
  omega
end Go.Lw
namespace Go.Lw
open Go.Proofs
theorem awl (a b:List Nat) (ha:Ws a) (hb:Ws b) (na:Nz a) (hb0:val b ≠ 0) (la:a.length < big) (lb:b.length < big) :
  FnC prog 382 [ws a,ws b] (.tup [ws (ofNat (val a / val b)),ws (ofNat (val a % val b))]):=by
 have la':=la
 have lb':=lb
 unfold big at la lb
 obtain ⟨V,hV⟩:∃ V,V = val a:=⟨_,rfl⟩
 obtain ⟨Bv,hBv⟩:∃ Bv,Bv = val b:=⟨_,rfl⟩
 have hBp:0 < Bv:=by omega
 have hBl:2 * Bv <= 4294967296 ^ (b.length + 1):=by have:=abk b hb; rw [Nat.pow_succ]; omega
 have hbl:acy V <= 32 * a.length:=by
  rcases Nat.eq_zero_or_pos (acy V) with h | h
  ·omega
  ·have := bgk ha (k := acy V - 1) (by rw [<- hV]; omega)
   omega
 rw [<- hV,<- hBv]
 refine gF0 func382 ?_
 refine gl ?_
 refine gs (agv (.tmp rfl) T68 rfl T231 rfl rfl (by omega) (by dsimp only; omega) rfl) ?_
 refine gl ?_
 refine ga (ad1 (y:=1) (by unfold acr; omega) (by unfold acr; omega)) ?_
 refine gs (agv (.tmp rfl) T68 rfl T231 rfl rfl (by omega) (by dsimp only; omega) rfl) ?_
 refine gc (hV ▸ a4l a ha na (by omega)) ?_
 refine ga (abc (by omega)) ?_
 refine gL3 [0,1] [] (fun (q r:List Nat) (i:Nat)=>[(6,some (.ms 13 1 0 a.length)),(7,some (.ms 17 1 0 (b.length + 1))),(8,some (i64 ((i:Int) - 1)))]) (fun q r _=>[(13,some (.row 1 (q.map u32))),(17,some (.row 1 (r.map u32)))]) (fun q r i=>q.length = a.length /\ r.length = b.length + 1 /\ Ws q /\ Ws r /\ i <= acy V /\ val r = V / 2 ^ i % Bv /\ val q = 2 ^ i * (V / 2 ^ i / Bv)) (fun _ _ i=>i) (List.replicate a.length 0) (List.replicate (b.length + 1) 0) (acy V) ⟨by simp,by simp,akt _,akt _,le_refl _,by rw [al5,a1t,Nat.zero_mod],by rw [al5,a1t,Nat.zero_div,Nat.mul_zero]⟩ ?_ (h2:=(.cons rfl (BlkSub.of (by rw [map_replicate]; rfl)) (.cons rfl (BlkSub.of (by rw [map_replicate]; rfl)) .nil)))
 rintro q r i ⟨hql,hrl,wq,wr',hi,hr,hq⟩ K1 hK1
 refine gC (fun ht22=>?_) (fun ht22=>?_) (st2:=(15,0))
 ·have hi0 : 1 <= i := by have := ht22; simp [aaa] at this; omega
  obtain ⟨k,rfl⟩:∃ k,i = k + 1:=⟨i - 1,by omega⟩
  rw [show ((k + 1:Nat):Int) - 1 = (k:Int) by omega]
  have hka:=bgk ha (k:=k) (by rw [<- hV]; omega)
  have hbit:=bm1 ha hka
  have hwB:=aam ha (k / 32)
  rw [<- hV] at hbit
  obtain ⟨bit,hbt⟩:∃ bit,bit = V / 2 ^ k % 2:=⟨_,rfl⟩
  have hb1:bit <= 1:=by omega
  have hrlt:=Nat.mod_lt (V / 2 ^ (k + 1)) hBp
  have hdw:aab a (k / 32) / 2 ^ (k % 32) <= aab a (k / 32):=Nat.div_le_self _ _
  refine gs (aee (.tmp rfl) (.const _) (by omega) (avi (by omega)) rfl) ?_
  refine gi (awb (n:=k / 32) (by omega) (by first | omega | (simp; omega))) ?_
  refine gs (a06 (.tmp rfl) (.const _) (by omega) bli rfl) ?_
  refine gs (adn (.tmp rfl) (.tmp rfl) (by omega) (an0 _ (k % 32) (by omega)) rfl) ?_
  refine gs (afg (.tmp rfl) (.const _) rfl ((aro (y:=1) (by omega) (by omega)).trans (show _ = (bit:Int) by rw [Nat.and_one_is_mod,hbit,hbt])) rfl) ?_
  refine gL3 [0,1,8,35] [13] (fun (o:List Nat) (c j:Nat)=>[(6,some (.ms 13 1 0 a.length)),(7,some (.ms 17 1 0 (b.length + 1))),(9,some (u32 c)),(36,some (i64 j))]) (fun o _ _=>[(17,some (.row 1 (o.map u32)))]) (fun o c j=>o.length = b.length + 1 /\ Ws o /\ j <= b.length + 1 /\ c <= 1 /\ o.drop j = r.drop j /\ val (o.take j) + c * 4294967296 ^ j = 2 * val (r.take j) + bit) (fun _ _ j=>b.length + 1 - j) r bit 0 ⟨hrl,wr',by omega,hb1,rfl,by simp [val]⟩ ?_
  rintro o c j ⟨hol,wo,hj,hc,hd,hv⟩ K2 hK2
  refine gC (fun ht37=>?_) (fun ht37=>?_)
  ·have hjn : j < b.length + 1 := by have := ht37; simp [aaa] at this; omega
   have e1:aab o j = aab r j:=aep hd
   have h1:=aam wr' j
   have h3:=bc2 (w:=aab r j) h1 hv
   refine gs (aap (n:=j) (.tmp rfl) (.tmp rfl) T68 rfl T231 rfl (by omega) (by first | omega | (simp; omega)) rfl) ?_
   refine gs (aau (.tmp rfl) rfl (by rw [aho (show j < o.length by omega),e1]) T231 rfl rfl rfl) ?_
   refine gs (ag5 (.tmp rfl) (.const _) (by omega) (a79 (n:=1) (by omega)) rfl) ?_
   refine gs (afg (.tmp rfl) (.tmp rfl) rfl ((am1 (by omega) (by omega)).trans (by rw [bns hc])) rfl) ?_
   refine gs (aap (n:=j) (.tmp rfl) (.tmp rfl) T68 rfl T231 rfl (by omega) (by first | omega | (simp; omega)) rfl) ?_
   refine gs (aau (.tmp rfl) rfl (by rw [aho (show j < o.length by omega),e1]) T231 rfl rfl rfl) ?_
   refine gs (adn (.tmp rfl) (.const _) (by omega) (an0 _ 31 (by omega)) rfl) ?_
   refine gs (aap (n:=j) (.tmp rfl) (.tmp rfl) T68 rfl T231 rfl (by omega) (by first | omega | (simp; omega)) rfl) ?_
   refine gs (abh (.tmp rfl) rfl (aho (i:=j) (by omega)) rfl (.tmp rfl) rfl rfl T231 rfl rfl) ?_
   refine gD ?_
   refine ga (aa1 (by omega)) ?_
   exact gK3 hK2 (o.set j (aab r j * 2 ^ 1 % 4294967296 + c)) (aab r j / 2 ^ 31) (j + 1) ⟨by simp [hol],ae6 wo (by omega),by omega,by omega,aez hd,by rw [ab6 (by omega),aag]; rw [show 4294967296 ^ (j + 1) = 4294967296 ^ j * 4294967296 from Nat.pow_succ _ _]; exact h3⟩ (hw:=Wk.of ab0 (.cons rfl (BlkSub.of (by rw [map_set]; rfl)) (.cons rfl (.refl _) .nil)))
  ·have hjn : j = b.length + 1 := by have : b.length + 1 <= j := (by have := ht37; simp [aaa] at this; omega); omega
   subst hjn
   rw [aav (l:=r) (by omega),aav (l:=o) (by omega),hr] at hv
   have hc0:c = 0:=by
    cases c with
    | zero=>rfl
    | succ c=>rw [Nat.succ_mul] at hv; omega
   subst hc0
   rw [Nat.zero_mul,Nat.add_zero] at hv
   have hot:o.take (b.length + 1) = o:=take_of_length_le (by omega)
   obtain ⟨d1,d2⟩:=bje (V:=V) (k:=k) hBp
   rw [<- hbt] at d1 d2
   have hcmp:=aru 17 o b (b.length + 1) wo hb (by omega)
   rw [hot,<- hBv,hv] at hcmp
   have hqk:k / 32 < q.length:=by omega
   obtain ⟨w1,w2⟩:=bdo wq hqk hq
   have w3:=biy wq hqk hq
   refine gt (aad hcmp (.cons (.tmp rfl) (.cons (.tmp rfl) .nil)) (by first | exact hH0 | exact hH1 rfl | exact hH2 rfl rfl) rfl rfl) ?_
   refine gC (fun ht58=>?_) (fun ht58=>?_)
   ·have hge:Bv <= 2 * (V / 2 ^ (k + 1) % Bv) + bit:=by
     rcases lt_or_ge (2 * (V / 2 ^ (k + 1) % Bv) + bit) Bv with h | h
     ·rw [if_pos h] at ht58; cases ht58
     ·exact h
    obtain ⟨d3,d4⟩:=d1 hge
    have htk:=ask o b (b.length + 1) wo hb (by omega) (by unfold big; omega) (by rw [hot,<- hBv,hv]; exact hge)
    rw [hot,<- hBv,hv,<- d3,blr (by rw [abv,hol])] at htk
    have hx2:V / 2 ^ k % Bv < 4294967296 ^ (b.length + 1):=by have:=Nat.mod_lt (V / 2 ^ k) hBp; omega
    refine gt (aad (Con.rekey 17 rfl rfl htk) (.cons (.tmp rfl) (.cons (.tmp rfl) .nil)) (by first | exact hH0 | exact hH1 rfl | exact hH2 rfl rfl) rfl rfl) ?_
    refine gs (aee (.tmp rfl) (.const _) (by omega) (avi (by omega)) rfl) ?_
    refine gs (aap (n:=k / 32) (.tmp rfl) (.tmp rfl) T68 rfl T231 rfl (by omega) (by omega) rfl) ?_
    refine gs (aau (.tmp rfl) rfl (aho (i:=k / 32) hqk) T231 rfl rfl rfl) ?_
    refine gs (a06 (.tmp rfl) (.const _) (by omega) bli rfl) ?_
    refine gs (ag5 (.const _) (.tmp rfl) (by omega) ((a79 (x:=1) (n:=k % 32) (by omega)).trans (show _ = ((2 ^ (k % 32):Nat):Int) by rw [Nat.one_mul,Nat.mod_eq_of_lt (lt_of_le_of_lt (Nat.le_add_left _ _) w2)])) rfl) ?_
    refine gs (afg (.tmp rfl) (.tmp rfl) rfl ((am1 (aam wq _) (lt_of_le_of_lt (Nat.le_add_left _ _) w2)).trans (by rw [w1])) rfl) ?_
    refine gs (aap (n:=k / 32) (.tmp rfl) (.tmp rfl) T68 rfl T231 rfl (by omega) (by omega) rfl) ?_
    refine gs (abh (.tmp rfl) rfl (aho (i:=k / 32) hqk) rfl (.tmp rfl) rfl rfl T231 rfl rfl) ?_
    refine gD ?_
    refine ga (abc (by omega)) ?_
    exact gK3 hK1 (q.set (k / 32) (aab q (k / 32) + 2 ^ (k % 32))) (adw (b.length + 1) (V / 2 ^ k % Bv)) k ⟨by simp [hql],abv _ _,ae6 wq w2,af2 _ _,by omega,afk _ _ hx2,by rw [w3,d4]⟩ (hw:=Wk.of ab0 (.cons rfl (BlkSub.of (by first | rfl | (rw [map_set]; rfl))) (.cons rfl (.refl _) .nil)))
   ·have hge:2 * (V / 2 ^ (k + 1) % Bv) + bit < Bv:=by
     rcases lt_or_ge (2 * (V / 2 ^ (k + 1) % Bv) + bit) Bv with h | h
     ·exact h
     ·rw [if_neg (by omega)] at ht58; split at ht58 <;> cases ht58
    obtain ⟨d3,d4⟩:=d2 hge
    refine ga (abc (by omega)) ?_
    exact gK3 hK1 q o k ⟨hql,hol,wq,wo,by omega,by rw [hv,d3],by rw [hq,d4,Nat.pow_succ,Nat.mul_assoc]⟩ (hw:=Wk.of ab0 (.cons rfl (BlkSub.of (by first | rfl | (rw [map_set]; rfl))) (.cons rfl (.refl _) .nil)))
 ·have hi0 : i = 0 := by have := ht22; simp [aaa] at this; omega
  subst hi0
  refine gW ((Wk.freeze (k:=13) rfl).trans <| (Wk.freeze (k:=17) rfl).trans <| Wk.of (sl:=[(6,some (ws q)),(7,some (ws r))]) (hp:=[]) (.cons rfl (Sub.of (by rw [show AV.fz 13 1 (q.map u32) (.ms 13 1 0 a.length) = ws q from ab8 (by simp [hql])]; rfl)) (.cons rfl (Sub.of (ab8 (by simp [hrl]))) .nil)) .nil) ?_
  refine gc (agf q wq (by omega)) ?_
  refine gc (agf r wr' (by unfold big; omega)) ?_
  refine gE2 ?_
  rw [hr,hq]; simp []
end Go.Lw
namespace Go.Lw
def GOk (L:Nat) (A:List Nat) (n:Nat):Prop:=Ws A /\ n <= A.length /\ A.length <= L /\ n = (ofNat (val (A.take n))).length
theorem a3k (v:Nat):ofNat v = adw (ofNat v).length v:=by
 have h:=arp (ofNat v) (aa3 _)
 rwa [aak] at h
theorem afa {L:Nat} {A:List Nat} {n v:Nat} (h:GOk L A n) (hv:v <= val (A.take n)) :
  GOk L (wr A 0 (adw n v)) (ofNat v).length /\ val ((wr A 0 (adw n v)).take (ofNat v).length) = v /\ val ((wr A 0 (adw n v)).take n) = v:=by
 obtain ⟨hw,hn,hl,hN⟩:=h
 have hlt:=aej hw n
 have hvl:v < 4294967296 ^ n:=by omega
 have hle:(ofNat v).length <= n:=aai hvl
 have ht:(wr A 0 (adw n v)).take n = adw n v:=by
  unfold wr
  rw [List.take_zero,nil_append,List.take_append_of_le_length (by rw [abv]; omega),take_of_length_le (by rw [abv]; omega)]
 have ht2:(wr A 0 (adw n v)).take (ofNat v).length = ofNat v:=by
  have h1:((wr A 0 (adw n v)).take n).take (ofNat v).length = (wr A 0 (adw n v)).take (ofNat v).length:=by rw [List.take_take,Nat.min_eq_left hle]
  rw [<- h1,ht,anp _ _ _ hle,<- a3k]
 have hlen:(wr A 0 (adw n v)).length = A.length:=amb (by rw [abv]; omega)
 refine ⟨⟨a4u hw (af2 _ _),by omega,by omega,by rw [ht2,aak]⟩,by rw [ht2,aak],by rw [ht,afk _ _ hvl]⟩
theorem ad8 {L:Nat} {A:List Nat} {n:Nat} (h:GOk L A n) (hx:0 < val (A.take n)):0 < n /\ val (A.take n) % 2 = aab A 0 % 2:=by
 have hn:0 < n:=by
  rcases Nat.eq_zero_or_pos n with h0 | h0
  ·subst h0; simp [val] at hx
  ·exact h0
 refine ⟨hn,?_⟩
 have:=ajm (A.take n) 0
 rw [drop_zero,ae8 hn] at this
 omega
theorem bc9 {L:Nat} {A:List Nat} {n:Nat} (h:GOk L A n):A.take n = ofNat (val (A.take n)):=by
 obtain ⟨hw,hn,hl,hN⟩:=h
 have h1:=ax4 (ac8 hw n)
 rw [<- hN,List.take_take,Nat.min_self] at h1
 exact h1
theorem a2k {L:Nat} {A:List Nat} {n:Nat} (h:GOk L A n):n = 0 ↔ val (A.take n) = 0:=by
 constructor
 ·intro h0; subst h0; rfl
 ·intro h0
  have h1:=h.2.2.2
  rw [h0] at h1
  exact h1
theorem a9d {x y:Nat} (hx:x % 2 = 0) (hy:y % 2 = 0):Nat.gcd x y = 2 * Nat.gcd (x / 2) (y / 2):=by
 rw [<- Nat.gcd_mul_left,Nat.mul_div_cancel' (Nat.dvd_of_mod_eq_zero hx),Nat.mul_div_cancel' (Nat.dvd_of_mod_eq_zero hy)]
theorem awa {x y:Nat} (hx:x % 2 = 0) (hy:y % 2 = 1):Nat.gcd (x / 2) y = Nat.gcd x y:=by
 have h1:x = 2 * (x / 2):=by omega
 have h2:Nat.Coprime 2 y:=by
  rw [Nat.Coprime,Nat.gcd_rec,hy]; rfl
 conv=>rhs; rw [h1]
 exact (Nat.Coprime.gcd_mul_left_cancel _ h2).symm
theorem a9b {x y:Nat} (h:y <= x):Nat.gcd (x - y) y = Nat.gcd x y:=Nat.gcd_sub_self_left h
theorem a1m {t L g V:Nat} (hg:0 < g) (h:2 ^ t * g <= V) (hV:V < 4294967296 ^ L):t < 32 * L:=by
 rw [a8u] at hV
 have h1:=mul_le_mul_left (2 ^ t) (show 1 <= g from hg)
 rcases lt_or_ge t (32 * L) with h2 | h2
 ·exact h2
 ·have:=afb h2; omega
end Go.Lw
namespace Go.Lw
open Go.Proofs
theorem apd (A D:List Nat) (n p:Nat) (hA:Ws A) (hD:Ws D) (hn:n <= A.length) (hp:p <= D.length) (la:A.length <= big) (hle:val (D.take p) <= val (A.take n)) :
  Con prog 379 [.ms 901 1 0 n, .ms 902 1 0 p] [(902, some (.row 1 (D.map u32))), (901, some (.row 1 (A.map u32)))] (.tup [])
   [(902,some (.row 1 (D.map u32))),(901,some (.row 1 ((wr A 0 (adw n (val (A.take n) - val (D.take p)))).map u32)))]:=by
 have h1:=Con.rekey 901 rfl rfl (ask A (D.take p) n hA (ac8 hD p) hn la hle)
 refine Con.borrow (args:=[.ms 901 1 0 n,ws (D.take p)]) 902 1 (D.map u32) rfl rfl rfl ?_ rfl ?_ h1
 ·intro j x' hj
  match j,hj with
  | 0,hj=>cases hj; exact .inl rfl
  | 1,hj=>cases hj; exact .inr ⟨0,p,rfl,by simpa using hp,by rw [aj8]; rfl⟩
 ·intro k' x h
  obtain ⟨_,h⟩:=ae7 h
  cases h; exact bgm _
theorem bpo {A:List Nat} (hA:Ws A) {i:Nat}:ath .and .u32 (aab A i:Int) 1 = ((aab A i % 2:Nat):Int) :=
 (aro (y:=1) (aam hA i) (by omega)).trans (by rw [Nat.and_one_is_mod])
theorem a5t (a b:List Nat) (ha:Ws a) (hb:Ws b) (na:Nz a) (nb:Nz b) (la:a.length + b.length < big):FnC prog 325 [ws a, ws b] (ws (ofNat (Nat.gcd (val a) (val b)))):=by
 have la':=la
 unfold big at la
 have ea:=ahy ha na
 have eb:=ahy hb nb
 obtain ⟨L,hL⟩:∃ L,L = a.length + b.length:=⟨_,rfl⟩
 obtain ⟨G,hG⟩:∃ G,G = Nat.gcd (val a) (val b):=⟨_,rfl⟩
 rw [<- hG]
 refine gF0 func325 ?_
 refine gt (aad (alj 901 rfl a ha (by unfold big; omega)) (.cons (.tmp rfl) .nil) (by first | exact hH0 | exact hH1 rfl | exact hH2 rfl rfl) rfl rfl) ?_
 refine gt (aad (alj 902 rfl b hb (by unfold big; omega)) (.cons (.tmp rfl) .nil) (by first | exact hH0 | exact hH1 rfl | exact hH2 rfl rfl) rfl rfl) ?_ (2,0)
 refine gW (Wk.of (sl:=[(0,some (.ms 901 1 0 a.length)),(1,some (.ms 902 1 0 b.length))]) (hp:=[(901,some (.row 1 (a.map u32))),(902,some (.row 1 (b.map u32)))]) (.cons rfl (Sub.of (by rw [ea])) (.cons rfl (Sub.of (by rw [eb])) .nil)) (.cons rfl (.refl _) (.cons rfl (.refl _) .nil))) ?_
 refine gC (fun ht12=>?_) (fun ht12=>?_) (st1:=(3,0))
 ·have h0 : a = [] := List.length_eq_zero_iff.1 (by simpa [aaa] using ht12)
  refine gW ((Wk.freeze (k:=902) rfl).trans <| Wk.of (sl:=[(1,some (ws b))]) (hp:=[]) (.cons rfl (Sub.of (ab8 (by simp))) .nil) .nil) ?_
  refine gE1 ?_
  rw [hG,h0]; simp [val,eb]
 ·have h0 : a ≠ [] := fun h => by rw [h] at ht12; simp [aaa] at ht12
  refine gC (fun ht16=>?_) (fun ht16=>?_) (st1:=(5,0))
  ·have h1 : b = [] := List.length_eq_zero_iff.1 (by simpa [aaa] using ht16)
   refine gW ((Wk.freeze (k:=901) rfl).trans <| Wk.of (sl:=[(0,some (ws a))]) (hp:=[]) (.cons rfl (Sub.of (ab8 (by simp))) .nil) .nil) ?_
   refine gE1 ?_
   rw [hG,h1]; simp [val,ea]
  ·have h1 : b ≠ [] := fun h => by rw [h] at ht16; simp [aaa] at ht16
   have va:=ak8 na h0
   have vb:=ak8 nb h1
   have hGp:0 < G:=by rw [hG]; exact Nat.gcd_pos_of_pos_left _ va
   have hGa:G <= val a:=by rw [hG]; exact Nat.gcd_le_left _ va
   have vla:=abk a ha
   refine gL5 [] [] (fun (A D:List Nat) (n p t:Nat)=>[(0,some (.ms 901 1 0 n)),(1,some (.ms 902 1 0 p)),(5,some (i64 t))]) (fun A D _ _ _=>[(901,some (.row 1 (A.map u32))),(902,some (.row 1 (D.map u32)))]) (fun A D n p t=>GOk L A n /\ GOk L D p /\ 0 < val (A.take n) /\ 0 < val (D.take p) /\ G = 2 ^ t * Nat.gcd (val (A.take n)) (val (D.take p))) (fun A _ n _ _=>val (A.take n)) a b a.length b.length 0 ⟨⟨ha,le_refl _,by omega,by rw [take_length,ea]⟩,⟨hb,le_refl _,by omega,by rw [take_length,eb]⟩,by rw [take_length]; exact va,by rw [take_length]; exact vb,by rw [take_length,take_length,hG]; simp⟩ ?_
   rintro A D n p t ⟨gA,gD,pA,pD,hg⟩ K1 hK1
   refine gs (aap (n:=0) (.tmp rfl) (.const _) T68 rfl T231 rfl (by omega) (by have:=(ad8 gA pA).1; omega) rfl) ?_
   refine gs (aau (.tmp rfl) rfl (aho (i:=0) (by have:=(ad8 gA pA).1; have:=gA.2.1; omega)) T231 rfl rfl rfl) ?_
   refine gs (afg (.tmp rfl) (.const _) rfl (bpo gA.1) rfl) ?_
   refine gs (acd rfl rfl rfl (fun h=>aap (n:=0) (.opt rfl (o1 h)) (.const _) T68 rfl T231 rfl (by omega) (by have:=(ad8 gD pD).1; omega) rfl)) ?_
   refine gs (acd rfl rfl rfl (fun h=>aau (.opt rfl (o1 h)) rfl (aho (i:=0) (by have:=(ad8 gD pD).1; have:=gD.2.1; omega)) T231 rfl rfl rfl)) ?_
   refine gs (acd rfl rfl rfl (fun h=>afg (.opt rfl (o1 h)) (.const _) rfl (bpo gD.1) rfl)) ?_
   refine gC (fun ht29=>?_) (fun ht29=>?_)
   ·have hev:aab A 0 % 2 = 0 /\ aab D 0 % 2 = 0:=by
     have:=ht29
     simp [aaa] at this
     omega
    have xA:val (A.take n) % 2 = 0:=by rw [(ad8 gA pA).2]; exact hev.1
    have xD:val (D.take p) % 2 = 0:=by rw [(ad8 gD pD).2]; exact hev.2
    obtain ⟨k1,k2,k3⟩:=afa gA (v:=val (A.take n) / 2) (by omega)
    obtain ⟨m1,m2,m3⟩:=afa gD (v:=val (D.take p) / 2) (by omega)
    have ht:t < 32 * a.length:=a1m (Nat.gcd_pos_of_pos_left _ pA) (by rw [<- hg]; exact hGa) vla
    refine gt (aad (Con.rekeyR 901 rfl (aiu A n gA.1 gA.2.1 (by have:=gA.2.2.1; unfold big; omega))) (.cons (.tmp rfl) .nil) (by first | exact hH0 | exact hH1 rfl | exact hH2 rfl rfl) rfl rfl) ?_
    refine gt (aad (Con.rekeyR 902 rfl (aiu D p gD.1 gD.2.1 (by have:=gD.2.2.1; unfold big; omega))) (.cons (.tmp rfl) .nil) (by first | exact hH0 | exact hH1 rfl | exact hH2 rfl rfl) rfl rfl) ?_
    refine ga (show _ = ((t + 1:Nat):Int) by rw [aa1 (by omega)]; omega) ?_
    exact gK5 hK1 (wr A 0 (adw n (val (A.take n) / 2))) (wr D 0 (adw p (val (D.take p) / 2))) ((ofNat (val (A.take n) / 2)).length) ((ofNat (val (D.take p) / 2)).length) (t + 1) ⟨k1,m1,by rw [k2]; omega,by rw [m2]; omega,by rw [k2,m2,hg,a9d xA xD,Nat.pow_succ]; grind⟩ (by rw [k2]; omega)
   ·have hod:val (A.take n) % 2 = 1 \/ val (D.take p) % 2 = 1:=by
     rw [(ad8 gA pA).2,(ad8 gD pD).2]
     have:=ht29
     simp [aaa] at this
     omega
    refine gL4 [5] [] (fun (A1 D1:List Nat) (n1 p1:Nat)=>[(0,some (.ms 901 1 0 n1)),(1,some (.ms 902 1 0 p1))]) (fun A1 D1 _ _=>[(901,some (.row 1 (A1.map u32))),(902,some (.row 1 (D1.map u32)))]) (fun A1 D1 n1 p1=>GOk L A1 n1 /\ GOk L D1 p1 /\ 0 < val (D1.take p1) /\ (val (A1.take n1) % 2 = 1 \/ val (D1.take p1) % 2 = 1) /\ G = 2 ^ t * Nat.gcd (val (A1.take n1)) (val (D1.take p1))) (fun A1 D1 n1 p1=>val (A1.take n1) + val (D1.take p1)) A D n p ⟨gA,gD,pD,hod,hg⟩ ?_
    rintro A1 D1 n1 p1 ⟨gA1,gD1,pD1,hod1,hg1⟩ K2 hK2
    refine gC (fun ht38=>?_) (fun ht38=>?_) (st2:=(19,0))
    ·have pA1:0 < val (A1.take n1):=by
      have h3:n1 ≠ 0:=by have:=ht38; simp [aaa] at this; omega
      exact Nat.pos_of_ne_zero (fun h=>h3 ((a2k gA1).2 h))
     refine gL2 [5] [902] (fun (A2:List Nat) (n2:Nat)=>[(0,some (.ms 901 1 0 n2)),(1,some (.ms 902 1 0 p1))]) (fun A2 _=>[(901,some (.row 1 (A2.map u32)))]) (fun A2 n2=>GOk L A2 n2 /\ 0 < val (A2.take n2) /\ val (A2.take n2) <= val (A1.take n1) /\ (val (A2.take n2) % 2 = 1 \/ val (D1.take p1) % 2 = 1) /\ Nat.gcd (val (A2.take n2)) (val (D1.take p1)) = Nat.gcd (val (A1.take n1)) (val (D1.take p1))) (fun A2 n2=>val (A2.take n2)) A1 n1 ⟨gA1,pA1,le_refl _,hod1,rfl⟩ ?_
     rintro A2 n2 ⟨gA2,pA2,lA2,hod2,hg2⟩ K3 hK3
     refine gs (aap (n:=0) (.tmp rfl) (.const _) T68 rfl T231 rfl (by omega) (by have:=(ad8 gA2 pA2).1; omega) rfl) ?_
     refine gs (aau (.tmp rfl) rfl (aho (i:=0) (by have:=(ad8 gA2 pA2).1; have:=gA2.2.1; omega)) T231 rfl rfl rfl) ?_
     refine gs (afg (.tmp rfl) (.const _) rfl (bpo gA2.1) rfl) ?_
     refine gC (fun ht43=>?_) (fun ht43=>?_)
     ·have xA2:val (A2.take n2) % 2 = 0:=by
       rw [(ad8 gA2 pA2).2]
       have:=ht43
       simp [aaa] at this
       omega
      obtain ⟨k1,k2,k3⟩:=afa gA2 (v:=val (A2.take n2) / 2) (by omega)
      refine gt (aad (Con.rekeyR 901 rfl (aiu A2 n2 gA2.1 gA2.2.1 (by have:=gA2.2.2.1; unfold big; omega))) (.cons (.tmp rfl) .nil) (by first | exact hH0 | exact hH1 rfl | exact hH2 rfl rfl) rfl rfl) ?_
      exact gK2 hK3 (wr A2 0 (adw n2 (val (A2.take n2) / 2))) ((ofNat (val (A2.take n2) / 2)).length) ⟨k1,by rw [k2]; omega,by rw [k2]; omega,.inr (by omega),by rw [k2,awa xA2 (by omega),hg2]⟩ (by rw [k2]; omega)
     ·have xA2:val (A2.take n2) % 2 = 1:=by
       rw [(ad8 gA2 pA2).2]
       have:=ht43
       simp [aaa] at this
       omega
      refine gL2 [5] [901] (fun (D2:List Nat) (p2:Nat)=>[(0,some (.ms 901 1 0 n2)),(1,some (.ms 902 1 0 p2))]) (fun D2 _=>[(902,some (.row 1 (D2.map u32)))]) (fun D2 p2=>GOk L D2 p2 /\ 0 < val (D2.take p2) /\ val (D2.take p2) <= val (D1.take p1) /\ Nat.gcd (val (A2.take n2)) (val (D2.take p2)) = Nat.gcd (val (A2.take n2)) (val (D1.take p1))) (fun D2 p2=>val (D2.take p2)) D1 p1 ⟨gD1,pD1,le_refl _,rfl⟩ ?_
      rintro D2 p2 ⟨gD2,pD2,lD2,hg3⟩ K4 hK4
      refine gs (aap (n:=0) (.tmp rfl) (.const _) T68 rfl T231 rfl (by omega) (by have:=(ad8 gD2 pD2).1; omega) rfl) ?_
      refine gs (aau (.tmp rfl) rfl (aho (i:=0) (by have:=(ad8 gD2 pD2).1; have:=gD2.2.1; omega)) T231 rfl rfl rfl) ?_
      refine gs (afg (.tmp rfl) (.const _) rfl (bpo gD2.1) rfl) ?_
      refine gC (fun ht50=>?_) (fun ht50=>?_)
      ·have xD2:val (D2.take p2) % 2 = 0:=by
        rw [(ad8 gD2 pD2).2]
        have:=ht50
        simp [aaa] at this
        omega
       obtain ⟨k1,k2,k3⟩:=afa gD2 (v:=val (D2.take p2) / 2) (by omega)
       refine gt (aad (Con.rekeyR 902 rfl (aiu D2 p2 gD2.1 gD2.2.1 (by have:=gD2.2.2.1; unfold big; omega))) (.cons (.tmp rfl) .nil) (by first | exact hH0 | exact hH1 rfl | exact hH2 rfl rfl) rfl rfl) ?_
       exact gK2 hK4 (wr D2 0 (adw p2 (val (D2.take p2) / 2))) ((ofNat (val (D2.take p2) / 2)).length) ⟨k1,by rw [k2]; omega,by rw [k2]; omega,by rw [k2,Nat.gcd_comm,awa xD2 xA2,Nat.gcd_comm,hg3]⟩ (by rw [k2]; omega)
      ·have xD2:val (D2.take p2) % 2 = 1:=by
        rw [(ad8 gD2 pD2).2]
        have:=ht50
        simp [aaa] at this
        omega
       refine gt (aad (art 901 902 (by omega) A2 D2 n2 p2 gA2.1 gD2.1 gA2.2.1 gD2.2.1) (.cons (.tmp rfl) (.cons (.tmp rfl) .nil)) (by first | exact hH0 | exact hH1 rfl | exact hH2 rfl rfl) rfl rfl) ?_
       refine gC (fun ht56=>?_) (fun ht56=>?_) (st1:=(17,0)) (st2:=(77777,0))
       ·have hlt:val (A2.take n2) < val (D2.take p2):=by
         rcases lt_or_ge (val (A2.take n2)) (val (D2.take p2)) with h | h
         ·exact h
         ·rw [if_neg (by omega)] at ht56; split at ht56 <;> cases ht56
        refine gW (Wk.o (sl:=[(0,some (.ms 902 1 0 p2)),(1,some (.ms 901 1 0 n2)),(5,some (i64 t))]) (hp:=[(901,some (.row 1 (A2.map u32))),(902,some (.row 1 (D2.map u32)))])) ?_ (17,0)
        refine gW (Wk.rekey (k:=901) (d:=903) rfl rfl) ?_ (17,0)
        refine gW (Wk.rekey (k:=902) (d:=901) rfl rfl) ?_ (17,0)
        refine gW (Wk.rekey (k:=903) (d:=902) rfl rfl) ?_ (17,0)
        refine gW (Wk.of (sl:=[(0,some (.ms 901 1 0 p2)),(1,some (.ms 902 1 0 n2)),(5,some (i64 t))]) (hp:=[(901,some (.row 1 (D2.map u32))),(902,some (.row 1 (A2.map u32)))]) (.cons rfl (Sub.refl _) (.cons rfl (Sub.refl _) (.cons rfl (Sub.refl _) .nil))) (.cons rfl (.refl _) (.cons rfl (.refl _) .nil))) ?_ (17,0)
        obtain ⟨A3,D3,n3,p3,gA3,gD3,xA3,xD3,hle3,hg4,hs3,e1,e2,e3,e4⟩:∃ A3 D3 n3 p3,GOk L A3 n3 /\ GOk L D3 p3 /\ val (A3.take n3) % 2 = 1 /\ val (D3.take p3) % 2 = 1 /\ val (D3.take p3) <= val (A3.take n3) /\ Nat.gcd (val (A3.take n3)) (val (D3.take p3)) = Nat.gcd (val (A2.take n2)) (val (D2.take p2)) /\ val (A3.take n3) + val (D3.take p3) = val (A2.take n2) + val (D2.take p2) /\ A3 = D2 /\ n3 = p2 /\ D3 = A2 /\ p3 = n2:=⟨D2,A2,p2,n2,gD2,gA2,xD2,xA2,by omega,Nat.gcd_comm _ _,Nat.add_comm _ _,rfl,rfl,rfl,rfl⟩
        rw [<- e1,<- e2,<- e3,<- e4]
        refine go ?_
        refine gt (aad (apd A3 D3 n3 p3 gA3.1 gD3.1 gA3.2.1 gD3.2.1 (by have:=gA3.2.2.1; unfold big; omega) hle3) (.cons (.tmp rfl) (.cons (.tmp rfl) .nil)) (by first | exact hH0 | exact hH1 rfl | exact hH2 rfl rfl) rfl rfl) ?_
        refine gt (aad (Con.rekeyR 901 rfl (aqv (wr A3 0 (adw n3 (val (A3.take n3) - val (D3.take p3)))) n3 (a4u gA3.1 (af2 _ _)) (by rw [amb (by rw [abv]; have:=gA3.2.1; omega)]; exact gA3.2.1) (by rw [amb (by rw [abv]; have:=gA3.2.1; omega)]; have:=gA3.2.2.1; unfold big; omega))) (.cons (.tmp rfl) .nil) (by first | exact hH0 | exact hH1 rfl | exact hH2 rfl rfl) rfl rfl) ?_
        exact gK4 hK2 (wr A3 0 (adw n3 (val (A3.take n3) - val (D3.take p3)))) D3 ((ofNat (val (A3.take n3) - val (D3.take p3))).length) p3 ⟨(afa gA3 (by omega)).1,gD3,by omega,.inr xD3,by rw [(afa gA3 (v:=val (A3.take n3) - val (D3.take p3)) (by omega)).2.1,a9b hle3,hg4,hg3,hg2,hg1]⟩ (by rw [(afa gA3 (v:=val (A3.take n3) - val (D3.take p3)) (by omega)).2.1]; omega) (hw:=Wk.of (.cons rfl (Sub.of (by rw [(afa gA3 (v:=val (A3.take n3) - val (D3.take p3)) (by omega)).2.2])) (.k (.k .nil))) (.cons rfl (.refl _) (.cons rfl (.refl _) .nil)))
       ·have hlt:val (D2.take p2) <= val (A2.take n2):=by
         rcases lt_or_ge (val (A2.take n2)) (val (D2.take p2)) with h | h
         ·rw [if_pos h] at ht56; cases ht56
         ·exact h
        refine gW (Wk.o (sl:=[(0,some (.ms 901 1 0 n2)),(1,some (.ms 902 1 0 p2)),(5,some (i64 t))]) (hp:=[(901,some (.row 1 (A2.map u32))),(902,some (.row 1 (D2.map u32)))])) ?_ (77777,0)
        obtain ⟨A3,D3,n3,p3,gA3,gD3,xA3,xD3,hle3,hg4,hs3,e1,e2,e3,e4⟩:∃ A3 D3 n3 p3,GOk L A3 n3 /\ GOk L D3 p3 /\ val (A3.take n3) % 2 = 1 /\ val (D3.take p3) % 2 = 1 /\ val (D3.take p3) <= val (A3.take n3) /\ Nat.gcd (val (A3.take n3)) (val (D3.take p3)) = Nat.gcd (val (A2.take n2)) (val (D2.take p2)) /\ val (A3.take n3) + val (D3.take p3) = val (A2.take n2) + val (D2.take p2) /\ A3 = A2 /\ n3 = n2 /\ D3 = D2 /\ p3 = p2:=⟨A2,D2,n2,p2,gA2,gD2,xA2,xD2,hlt,rfl,rfl,rfl,rfl,rfl,rfl⟩
        rw [<- e1,<- e2,<- e3,<- e4]
        obtain ⟨k1,k2,k3⟩:=afa gA3 (v:=val (A3.take n3) - val (D3.take p3)) (by omega)
        refine go ?_
        refine gt (aad (apd A3 D3 n3 p3 gA3.1 gD3.1 gA3.2.1 gD3.2.1 (by have:=gA3.2.2.1; unfold big; omega) hle3) (.cons (.tmp rfl) (.cons (.tmp rfl) .nil)) (by first | exact hH0 | exact hH1 rfl | exact hH2 rfl rfl) rfl rfl) ?_
        refine gt (aad (Con.rekeyR 901 rfl (aqv (wr A3 0 (adw n3 (val (A3.take n3) - val (D3.take p3)))) n3 (a4u gA3.1 (af2 _ _)) (by rw [amb (by rw [abv]; have:=gA3.2.1; omega)]; exact gA3.2.1) (by rw [amb (by rw [abv]; have:=gA3.2.1; omega)]; have:=gA3.2.2.1; unfold big; omega))) (.cons (.tmp rfl) .nil) (by first | exact hH0 | exact hH1 rfl | exact hH2 rfl rfl) rfl rfl) ?_
        exact gK4 hK2 (wr A3 0 (adw n3 (val (A3.take n3) - val (D3.take p3)))) D3 ((ofNat (val (A3.take n3) - val (D3.take p3))).length) p3 ⟨(afa gA3 (by omega)).1,gD3,by omega,.inr xD3,by rw [(afa gA3 (v:=val (A3.take n3) - val (D3.take p3)) (by omega)).2.1,a9b hle3,hg4,hg3,hg2,hg1]⟩ (by rw [(afa gA3 (v:=val (A3.take n3) - val (D3.take p3)) (by omega)).2.1]; omega) (hw:=Wk.of (.cons rfl (Sub.of (by rw [(afa gA3 (v:=val (A3.take n3) - val (D3.take p3)) (by omega)).2.2])) (.k (.k .nil))) (.cons rfl (.refl _) (.cons rfl (.refl _) .nil)))
    ·have zA1:val (A1.take n1) = 0:=by
      have h3:n1 = 0:=by have:=ht38; simp [aaa] at this; omega
      exact (a2k gA1).1 h3
     rw [zA1,Nat.gcd_zero_left] at hg1
     refine gW ((Wk.freeze (k:=902) rfl).trans <| Wk.of (sl:=[(1,some (ws (ofNat (val (D1.take p1))))),(5,some (i64 t))]) (hp:=[]) (.cons rfl (Sub.of (by rw [bd9 (by rw [length_map]; have:=gD1.2.1; omega),aj8,<- bc9 gD1])) (.k .nil)) .nil) ?_
     refine gL1 [64] [] (fun (i:Nat)=>[(1,some (ws (ofNat (2 ^ i * val (D1.take p1))))),(65,some (i64 i))]) (fun _=>[]) (fun i=>i <= t) (fun i=>t - i) 0 (zero_le _) ?_ (h1:=(.cons rfl (Sub.of (by rw [Nat.pow_zero,Nat.one_mul])) (.k .nil)))
     rintro i hit K5 hK5
     refine gC (fun ht66=>?_) (fun ht66=>?_)
     ·have hin : i < t := by simpa [aaa] using ht66
      have h3:2 ^ i * val (D1.take p1) <= G:=by rw [hg1]; exact mul_le_mul_right _ (afb (by omega))
      have h4:(ofNat (2 ^ i * val (D1.take p1))).length <= a.length:=aai (by omega)
      have ht:t < 32 * a.length:=a1m pD1 (by rw [<- hg1]; exact hGa) vla
      refine gc (am3 _ _ (aa3 _) (aa3 _) (by unfold big; omega) (by unfold big; omega)) ?_
      refine ga (aa1 (by omega)) ?_
      exact gK1 hK5 (i + 1) hin (hw:=Wk.of (.cons rfl (Sub.of (by rw [aak,Nat.pow_succ]; congr 2; grind)) (.k (.k .nil))) .nil)
     ·have hin : i = t := by have : t <= i := (by simpa [aaa] using ht66); omega
      subst hin
      refine gE1 ?_
      rw [hg1]
end Go.Lw
namespace Go.Lw
open Go.Proofs
theorem axg (a b:Wh) (ha:a.ok) (hb:b.ok) (la:a.mag.length + b.mag.length < big):FnC prog 262 [a.av, b.av] (zA (Int.gcd a.z b.z)):=by
 have h1:=Wh.m_le (w:=a)
 have h2:=Wh.m_le (w:=b)
 have h3:Int.gcd a.z b.z = Nat.gcd (val a.m) (val b.m):=by rw [Int.gcd,Wh.abs,Wh.abs]
 have h4:(ofNat (Nat.gcd (val a.m) (val b.m))).length <= a.m.length + b.m.length:=by
  rcases Nat.eq_zero_or_pos (val a.m) with h | h
  ·rw [h,Nat.gcd_zero_left,Wh.ofNat_m hb]; omega
  ·exact le_trans (aai (lt_of_le_of_lt (Nat.gcd_le_left _ h) (abk _ (Wh.ws ha)))) (by omega)
 refine gF0 func262 ?_
 refine gc (adr a ha) ?_
 refine gc (adr b hb) ?_
 refine gc (a5t a.m b.m (Wh.ws ha) (Wh.ws hb) a.nz b.nz (by omega)) ?_
 refine gc (aci false _ (aa3 _) (by omega)) ?_
 refine gD ?_
 refine gE1 ?_
 rw [aak,h3]; rfl
theorem a6o (a b:Wh) (ha:a.ok) (hb:b.ok) (la:a.mag.length + 1 < big) (lb:b.mag.length < big) (h0:b.z ≠ 0):FnC prog 328 [a.av, b.av] (.tup [zA (a.z / b.z), zA (a.z % b.z), i64 0]):=by
 have hm1:=Wh.m_le (w:=a)
 have hm2:=Wh.m_le (w:=b)
 have hb1:val b.m ≠ 0:=by have:=Wh.abs (w:=b); omega
 have hl1:(ofNat (val a.m / val b.m)).length <= a.m.length:=aai (lt_of_le_of_lt (Nat.div_le_self _ _) (abk _ (Wh.ws ha)))
 have hmod:=Nat.mod_lt (val a.m) (show 0 < val b.m by omega)
 have hl2:(ofNat (val a.m % val b.m)).length <= b.m.length:=aai (Nat.lt_trans hmod (abk _ (Wh.ws hb)))
 have hl3:(ofNat (val a.m / val b.m + 1)).length <= a.m.length + 1:=aai (by have h7:=lt_of_le_of_lt (Nat.div_le_self (val a.m) (val b.m)) (abk _ (Wh.ws ha)); rw [Nat.pow_succ]; generalize val a.m / val b.m = m at *; omega)
 have hl4:(ofNat (val b.m - val a.m % val b.m)).length <= b.m.length:=aai (by have:=abk _ (Wh.ws hb); omega)
 have hv1:val [1] = 1:=rfl
 refine gF0 func328 ?_
 refine gc (amw b hb) ?_
 refine gC (fun ht11=>?_) (fun ht11=>?_) (st1:=(2,0))
 ·exact absurd (Int.sign_eq_zero_iff_zero.1 (by simpa [aaa] using ht11)) h0
 ·refine gc (adr a ha) ?_
  refine gc (adr b hb) ?_
  refine gc (awl a.m b.m (Wh.ws ha) (Wh.ws hb) a.nz hb1 (by omega) (by omega)) ?_
  refine gD ?_
  refine gc (acn a ha) ?_
  refine glG ?_
  refine gC (fun ht28=>?_) (fun ht28=>?_)
  ·have h1:a.n = true /\ 0 < val a.m % val b.m:=ao5.1 ht28
   obtain ⟨e1,e2⟩:=a00 hb1 h1.1 h1.2
   refine gc (am3 (ofNat (val a.m / val b.m)) [1] (aa3 _) (avu (by omega)) (by omega) (by unfold big; simp)) ?_
   refine gc (adr b hb) ?_
   refine gc (ala b.m (ofNat (val a.m % val b.m)) (Wh.ws hb) (aa3 _) (by omega) (by rw [aak]; omega)) ?_
   refine gD ?_ (6,0)
   refine gW (Wk.of (sl:=[(2,some (.ptr 2 0)),(3,some (.ptr 3 0)),(4,some (.ptr 4 0)),(5,some (.ptr 5 0)),(7,some (ws (ofNat (val a.m / val b.m + 1)))),(8,some (ws (ofNat (val b.m - val a.m % val b.m))))]) (hp:=[(2,some (.box [bl a.neg,ws a.mag])),(3,some (.box [bl b.neg,ws b.mag])),(4,some (.box [.v (.bool false),.v (.slice none 0 0)])),(5,some (.box [.v (.bool false),.v (.slice none 0 0)]))]) (.k (.k (.k (.k (.cons rfl (Sub.of (by rw [aak,hv1])) (.cons rfl (Sub.of (by rw [aak])) .nil)))))) (.cons rfl (.refl _) (.cons rfl (.refl _) (.cons rfl (.refl _) (.cons rfl (.refl _) .nil))))) ?_
   refine gc (acn a ha) ?_
   refine gc (acn b hb) ?_
   refine gc (by apply aci _ _ (aa3 _) (by omega)) ?_
   refine gc (by apply aci _ _ (aa3 _) (by omega)) ?_
   refine gD ?_
   refine gR ?_
   exact ap6 (by rw [aak,aak,e1,show sgn false _ = _ from e2]; rfl)
  ·have h1:¬ (a.n = true /\ 0 < val a.m % val b.m):=fun h=>Bool.eq_false_iff.1 ht28 (ao5.2 h)
   obtain ⟨e1,e2⟩:=a73 hb1 h1
   refine gc (acn a ha) ?_
   refine gc (acn b hb) ?_
   refine gc (by apply aci _ _ (aa3 _) (by omega)) ?_
   refine gc (by apply aci _ _ (aa3 _) (by omega)) ?_
   refine gD ?_
   refine gR ?_
   exact ap6 (by rw [aak,aak,e1,show sgn false _ = _ from e2]; rfl)
end Go.Lw
namespace Go.Lw
open Go.Proofs
theorem axe {x:Int} (hx:Zs x):FnC prog 227 [zA x] (i64 x.sign):=by
 have h:=ahm (ofInt x) hx.ok
 rw [abr] at h
 exact h
theorem bed {x:Int} (hx:Zs x):FnC prog 145 [zA x] (zA (-x)):=by
 have h:=ats (ofInt x) hx.ok (by have:=hx.len; unfold big; omega)
 rw [abr] at h
 exact h
theorem boj {x y:Int} (hx:Zs x) (hy:Zs y):FnC prog 274 [zA x, zA y] (i64 (axr x y)):=by
 have h:=atg (ofInt x) (ofInt y) hx.ok hy.ok
 rw [abr,abr] at h
 exact h
theorem bry {x y:Int} (hx:Zs x) (hy:Zs y):FnC prog 225 [zA x, zA y] (zA (x + y)):=by
 have h:=atd (ofInt x) (ofInt y) hx.ok hy.ok (by have:=hx.len; unfold big; omega) (by have:=hy.len; unfold big; omega)
 rw [abr,abr] at h
 exact h
theorem au2 {x y:Int} (hx:Zs x) (hy:Zs y):FnC prog 226 [zA x, zA y] (zA (x * y)):=by
 have h:=au6 (ofInt x) (ofInt y) hx.ok hy.ok (by have:=hx.len; have:=hy.len; unfold big; omega)
 rw [abr,abr] at h
 exact h
theorem bre {x y:Int} (hx:Zs x) (hy:Zs y):FnC prog 228 [zA x, zA y] (zA (Int.gcd x y)):=by
 have h:=amp (ofInt x) (ofInt y) hx.ok hy.ok (by have:=hx.len; unfold big; omega) (by have:=hy.len; unfold big; omega)
 rw [abr,abr] at h
 exact h
theorem blh {x y:Int} (hx:Zs x) (hy:Zs y) (h0:y ≠ 0):FnC prog 229 [zA x, zA y] (.tup [zA (x / y), zA (x % y), .v .nilIface]):=by
 have h:=at0 (ofInt x) (ofInt y) hx.ok hy.ok (by have:=hx.len; unfold big; omega) (by have:=hy.len; unfold big; omega) (by rw [abr]; exact h0)
 rw [abr,abr] at h
 exact h
theorem at7 {x:Int} (hx:Zs x):FnC prog 265 [zA x] (i64 x.sign):=by
 have h:=amw (ofInt x) hx.ok
 rw [abr] at h
 exact h
theorem a8s {x:Int} (hx:Zs x):FnC prog 272 [zA x] (zA (-x)):=by
 have h:=av5 (ofInt x) hx.ok (by have:=hx.len; unfold big; omega)
 rw [abr] at h
 exact h
theorem bn0 {x y:Int} (hx:Zs x) (hy:Zs y):FnC prog 261 [zA x, zA y] (i64 (axr x y)):=by
 have h:=a91 (ofInt x) (ofInt y) hx.ok hy.ok (by have:=hx.len; unfold big; omega) (by have:=hy.len; unfold big; omega)
 rw [abr,abr] at h
 exact h
theorem bk7 {x y:Int} (hx:Zs x) (hy:Zs y):FnC prog 267 [zA x, zA y] (zA (x + y)):=by
 have h:=axo (ofInt x) (ofInt y) hx.ok hy.ok (by have:=hx.len; unfold big; omega) (by have:=hy.len; unfold big; omega)
 rw [abr,abr] at h
 exact h
theorem apk {x y:Int} (hx:Zs x) (hy:Zs y):FnC prog 268 [zA x, zA y] (zA (x * y)):=by
 have h:=a6t (ofInt x) (ofInt y) hx.ok hy.ok (by have:=hx.len; have:=hy.len; unfold big; omega)
 rw [abr,abr] at h
 exact h
theorem blg {x y:Int} (hx:Zs x) (hy:Zs y):FnC prog 262 [zA x, zA y] (zA (Int.gcd x y)):=by
 have h:=axg (ofInt x) (ofInt y) hx.ok hy.ok (by have:=hx.len; have:=hy.len; unfold big; omega)
 rw [abr,abr] at h
 exact h
theorem be3 {x y:Int} (hx:Zs x) (hy:Zs y) (h0:y ≠ 0):FnC prog 328 [zA x, zA y] (.tup [zA (x / y), zA (x % y), i64 0]):=by
 have h:=a6o (ofInt x) (ofInt y) hx.ok hy.ok (by have:=hx.len; unfold big; omega) (by have:=hy.len; unfold big; omega) (by rw [abr]; exact h0)
 rw [abr,abr] at h
 exact h
end Go.Lw
namespace Go.Lw
open Go.Proofs
def azk (e:Nat):Value:=match e with | 0=>.nilIface | e + 1=>.iface 103 (.int .i64 ((e + 1:Nat):Int))
def ah7 (e:Nat):AV:=.v (azk e)
theorem bi6 (e:Nat):azk e = .nilIface \/ ∃ T u,azk e = .iface T u:=by cases e; exact .inl rfl; exact .inr ⟨_,_,rfl⟩
theorem amn (e:Nat):ago (azk e) = decide (e = 0):=by cases e <;> simp [azk,ago]
theorem a9h {e:Nat} (h:ago (azk e) = true):e = 0:=by rw [amn] at h; exact of_decide_eq_true h
theorem bah {e:Nat} (h:ago (azk e) = false):e ≠ 0:=by rw [amn] at h; exact of_decide_eq_false h
theorem ac5 {e:Nat} (h:(!ago (azk e)) = true):e ≠ 0:=bah (by cases h':ago (azk e) <;> simp_all)
theorem ac7 {e:Nat} (h:(!ago (azk e)) = false):e = 0:=a9h (by cases h':ago (azk e) <;> simp_all)
theorem ag9:FnC prog 221 [] (zA 1):=by
 refine gF0 func221 ?_
 refine gc (an8 1 (by omega)) ?_
 refine gE1 ?_
 first | rfl | (simp; done)
theorem acg (r:Rt) (h:r.ok):FnC prog 212 [r.av] (bl r.valid):=by
 have hn:=h.n0
 have hd:=h.d0
 refine gF0 func212 ?_
 refine gl ?_
 refine glG ?_
 refine gC (fun ht14=>?_) (fun ht14=>?_)
 ·have h0 : r.num = [] /\ r.den = [] := by simpa [aaa] using ht14
  refine gE1 ?_
  unfold Rt.valid; rw [if_pos h0]; rfl
 ·have h0:¬ (r.num = [] /\ r.den = []):=by
   have:=ht14
   simp [aaa] at this
   exact fun h=>this h.1 h.2
  refine gD ?_
  refine gl ?_
  refine glG ?_
  refine gcG (fun _=>(aey r.n0 hn)) ?_
  refine gcG (fun _=>(aey r.d0 hd)) ?_
  refine gC (fun ht43=>?_) (fun ht43=>?_)
  ·have h1:r.valid = false:=atz h0 ht43
   refine gE1 ?_
   rw [h1]; rfl
  ·have h1:=avn h0 ht43
   refine gc (amp r.n0 r.d0 hn hd h.n0l h.d0l) ?_
   refine gc (by apply ag9) ?_
   refine gc (boj (Rt.gcd_zs h) zs1) ?_
   refine gE1 ?_
   rw [h1]; rfl
theorem abe (r:Rt) (h:r.ok):FnC prog 143 [r.av] (.tup [zA r.q.num, zA r.q.den]):=by
 have hl1:r.num.length <= 137438953472:=h.2.2.1
 have hl2:r.den.length <= 137438953472:=h.2.2.2
 refine gF0 func143 ?_
 refine gc (acg r h) ?_
 refine glG ?_
 refine gC (fun ht12=>?_) (fun ht12=>?_)
 ·have h0:¬ (r.valid = true /\ r.num ≠ []):=by
   have:=ht12
   intro h'
   simp [aaa,h'.1,h'.2] at this
  refine gc ag9 ?_
  refine gR ?_
  exact ac3 (by rw [Rt.zero h0]; exact Sub.tup (.cons bgo (.cons (.refl _) .nil)))
 ·have h0:r.valid = true /\ r.num ≠ []:=by
   have:=ht12
   cases hv:r.valid
   ·rw [hv] at this; cases this
   ·rw [hv] at this; exact ⟨rfl,by simpa [aaa] using this⟩
  obtain ⟨e1,e2,e3,e4,e5,e6⟩:=Rt.parts h h0.1 h0.2
  refine gs (acw T68 rfl T231 rfl rfl rfl) ?_
  refine gs (abu (.tmp rfl) rfl rfl (.tmp rfl) T68 rfl T231 rfl rfl (by simp only [length_map]; omega) rfl rfl) ?_
  refine gD ?_ (4,0)
  refine gW ((Wk.freeze (k:=20) rfl).trans <| Wk.of (sl:=[(1,some (.ptr 1 0)),(2,some (.ptr 2 0)),(3,some (.ptr 3 0))]) (hp:=[(1,some (.box [bl r.neg,ws r.num,ws r.den])),(2,some (.box [bl r.neg,ws r.num])),(3,some (.box [bl false,.v (.slice none 0 0)]))]) ab0 (.cons rfl (.refl _) (.cons rfl (BlkSub.boxL (.cons (.refl _) (.cons (.of (ab8 (by simp))) .nil)) rfl) (.cons rfl (.refl _) .nil)))) ?_
  refine gs (acw T68 rfl T231 rfl rfl rfl) ?_
  refine gs (abu (.tmp rfl) rfl rfl (.tmp rfl) T68 rfl T231 rfl rfl (by simp only [length_map]; omega) rfl rfl) ?_
  refine gD ?_ (77777,0)
  refine gW ((Wk.freeze (k:=26) rfl).trans <| Wk.of (sl:=[(2,some (.ptr 2 0)),(3,some (.ptr 3 0))]) (hp:=[(2,some (.box [bl r.neg,ws r.num])),(3,some (.box [bl false,ws r.den]))]) ab0 (.cons rfl (.refl _) (.cons rfl (BlkSub.boxL (.cons (.refl _) (.cons (.of (ab8 (by simp))) .nil)) rfl) .nil))) ?_
  refine gE2 ?_
  rw [e1,e2]; exact a1a e3 e4 e5
theorem adq {n d:Int} (hn:Zs n) (hd:Zs d) (h0:d ≠ 0):FnC prog 144 [zA n, zA d] (qA (Rat.divInt n d)):=by
 refine gF0 func144 ?_
 refine gc (axe hn) ?_
 refine gC (fun ht9=>?_) (fun ht9=>?_)
 ·have e0 : n = 0 := Int.sign_eq_zero_iff_zero.1 (by simpa [aaa] using ht9)
  refine gR ?_
  exact adc (by rw [e0,Rat.zero_divInt]; exact ai2)
 ·have e0 : n ≠ 0 := fun h => by rw [h] at ht9; cases ht9
  refine gc (axe hd) ?_
  refine gJ2 [2,3,4] [4] (fun (n1 d1:Int)=>[]) (fun n1 d1=>[(2,some (.box (zA n1).cells)),(3,some (.box (zA d1).cells))]) (fun n1 d1=>0 < d1 /\ n1 ≠ 0 /\ Zs n1 /\ Zs d1 /\ Rat.divInt n1 d1 = Rat.divInt n d) ?_ ?_
  ·intro K1 hK1
   refine gC (fun ht13=>?_) (fun ht13=>?_)
   ·have e1 : d < 0 := Int.sign_eq_neg_one_iff_neg.1 (by have := Int.sign_trichotomy d; have h9 : d.sign < 0 := (by simpa [aaa] using ht13); omega)
    refine gc (bed hn) ?_
    refine gc (bed hd) ?_
    refine gD ?_
    exact jK2 hK1 (-n) (-d) ⟨by omega,by omega,hn.neg,hd.neg,aqz n d⟩
   ·have e1:0 < d:=by
     have h9:0 <= d.sign:=by simpa [aaa] using ht13
     have:=Int.sign_nonneg_iff.1 h9
     omega
    exact jK2 hK1 n d ⟨e1,e0,hn,hd,rfl⟩
  ·rintro n1 d1 ⟨f1, f2, f3, f4, f5⟩
   refine gc (bre f3 f4) ?_
   refine gc (axe f3) ?_
   refine gJ1 [2,3,4,5] [3,4,5] (fun (n2:Int)=>[(6,some (bl (decide (n1 < 0))))]) (fun n2=>[(2,some (.box (zA n2).cells))]) (fun n2=>n2 = (n1.natAbs:Int)) ?_ ?_
   ·intro K2 hK2
    refine gC (fun ht24=>?_) (fun ht24=>?_)
    ·have e2 : n1 < 0 := Int.sign_eq_neg_one_iff_neg.1 (by have := Int.sign_trichotomy n1; have h9 : n1.sign < 0 := (by simpa [aaa] using ht24); omega)
     refine gc (bed f3) ?_
     exact jK1 hK2 (-n1) (by omega) (hw:=Wk.of (.cons rfl (Sub.of (by rw [show aaa .lss n1.sign 0 = true from ht24,decide_eq_true e2]; rfl)) (.k (.k (.k (.k .nil))))) (.cons rfl (.refl _) (.cons rfl (.refl _) (.cons rfl (.refl _) (.cons rfl (.refl _) .nil)))))
    ·have e2:0 < n1:=by
      have h9:0 <= n1.sign:=by simpa [aaa] using ht24
      have:=Int.sign_nonneg_iff.1 h9
      omega
     exact jK1 hK2 n1 (by omega) (hw:=Wk.of (.cons rfl (Sub.of (by rw [show aaa .lss n1.sign 0 = false from ht24,decide_eq_false (by omega)]; rfl)) (.k (.k (.k (.k .nil))))) (.cons rfl (.refl _) (.cons rfl (.refl _) (.cons rfl (.refl _) (.cons rfl (.refl _) .nil)))))
   ·rintro n2 g1
    have g2:Zs (Int.gcd n1 d1:Int):=f3.of_le (by rw [natAbs_natCast]; exact Nat.le_of_dvd (by omega) (Int.gcd_dvd_natAbs_left _ _))
    have g3:(Int.gcd n1 d1:Int) ≠ 0:=by have:=Int.gcd_pos_of_ne_zero_left d1 f2; omega
    have g4:Zs n2:=f3.of_le (by omega)
    refine gc (blh g4 g2 g3) ?_
    refine gc (blh f4 g2 g3) ?_
    refine gE1 ?_
    rw [<- f5,<- bjd f1 f2,<- g1]; rfl
theorem are {n d:Int} (hn:Zs n) (hd:Zs d):FnC prog 397 [zA n, zA d] (.tup [qA (Rat.divInt n d), ah7 (if d = 0 then 8 else 0)]):=by
 refine gF0 func397 ?_
 refine gc (axe hd) ?_
 refine gC (fun ht8=>?_) (fun ht8=>?_)
 ·have h0 : d = 0 := Int.sign_eq_zero_iff_zero.1 (by simpa [aaa] using ht8)
  refine gR ?_
  exact ac3 (by rw [if_pos h0,h0,Rat.divInt_zero]; exact Sub.tup (.cons ai2 (.cons (.refl _) .nil)))
 ·have h0 : d ≠ 0 := fun h => by rw [h] at ht8; cases ht8
  refine gc (adq hn hd h0) ?_
  refine gE2 ?_
  rw [if_neg h0]; rfl
theorem ad2 (n:Int) (h:-9223372036854775808 <= n /\ n <= 9223372036854775807):FnC prog 137 [i64 n] (qA n):=by
 have hz:Zs n:=⟨2,by omega,by unfold Lz; simp only [Nat.reducePow]; omega⟩
 refine gF0 func137 ?_
 refine gc (an8 n h) ?_
 refine gc ag9 ?_
 refine gc (adq hz zs1 (by omega)) ?_
 refine gE1 ?_
 exact congrArg qA (Rat.num_divInt_den (n:Rat))
theorem ag8 (a:Rt) (ha:a.ok):FnC prog 69 [a.av] (qA (-a.q)):=by
 have za:=ha.qs
 refine gF0 func69 ?_
 refine gc (abe a ha) ?_
 refine gc (bed za.num) ?_
 refine gc (adq za.num.neg za.den (by have:=a.q.den_nz; omega)) ?_
 refine gD ?_
 refine gE1 ?_
 rw [a87]; rfl
theorem ae4 (a:Rt) (ha:a.ok):FnC prog 179 [a.av] (i64 (af7 a.q)):=by
 refine gF0 func179 ?_
 refine gc (abe a ha) ?_
 refine gc (axe ha.qs.num) ?_
 refine gE1 ?_
 rw [a04]
theorem akl (a b:Rt) (ha:a.ok) (hb:b.ok):FnC prog 292 [a.av, b.av] (i64 (af7 (a.q - b.q))):=by
 have za:=ha.qs
 have zb:=hb.qs
 have m1:=za.mul zb
 have m2:=zb.mul za
 refine gF0 func292 ?_
 refine gc (abe a ha) ?_
 refine gc (abe b hb) ?_
 refine gc (au2 za.num zb.den) ?_
 refine gc (au2 zb.num za.den) ?_
 refine gc (boj m1.1 m2.1) ?_
 refine gD ?_
 refine gE1 ?_
 rw [bgz]
theorem afm (a b:Rt) (ha:a.ok) (hb:b.ok):FnC prog 142 [a.av, b.av] (qA (a.q + b.q)):=by
 have za:=ha.qs
 have zb:=hb.qs
 have m1:=za.mul zb
 have m2:=zb.mul za
 refine gF0 func142 ?_
 refine gc (abe a ha) ?_
 refine gc (abe b hb) ?_
 refine gc (au2 za.num zb.den) ?_
 refine gc (au2 zb.num za.den) ?_
 refine gc (bry m1.1 m2.1) ?_
 refine gc (au2 za.den zb.den) ?_
 refine gc (adq (za.cross zb) m1.2.2.1 (Int.mul_ne_zero (by have:=a.q.den_nz; omega) (by have:=b.q.den_nz; omega))) ?_
 refine gD ?_
 refine gE1 ?_
 rw [aze]; rfl
theorem arx (a b:Rt) (ha:a.ok) (hb:b.ok):FnC prog 258 [a.av, b.av] (qA (a.q - b.q)):=by
 refine gF0 func258 ?_
 refine gc (ag8 b hb) ?_
 refine gc (afm a (rt (-b.q)) ha hb.qs.neg.ok) ?_
 refine gD ?_
 refine gE1 ?_
 rw [agd,<- Rat.sub_eq_add_neg]; rfl
theorem ak0 (a b:Rt) (ha:a.ok) (hb:b.ok):FnC prog 204 [a.av, b.av] (qA (a.q * b.q)):=by
 have za:=ha.qs
 have zb:=hb.qs
 have m1:=za.mul zb
 refine gF0 func204 ?_
 refine gc (abe a ha) ?_
 refine gc (abe b hb) ?_
 refine gc (au2 za.num zb.num) ?_
 refine gc (au2 za.den zb.den) ?_
 refine gc (adq m1.2.1 m1.2.2.1 (Int.mul_ne_zero (by have:=a.q.den_nz; omega) (by have:=b.q.den_nz; omega))) ?_
 refine gD ?_
 refine gE1 ?_
 rw [az9]; rfl
theorem arz (a b:Rt) (ha:a.ok) (hb:b.ok):FnC prog 396 [a.av, b.av] (.tup [qA (a.q / b.q), ah7 (if b.q = 0 then 8 else 0)]):=by
 have za:=ha.qs
 have zb:=hb.qs
 have m1:=za.mul zb
 refine gF0 func396 ?_
 refine gc (abe a ha) ?_
 refine gc (abe b hb) ?_
 refine gc (au2 za.num zb.den) ?_
 refine gc (au2 za.den zb.num) ?_
 refine gc (are m1.1 m1.2.2.2) ?_
 refine gD ?_
 refine gE2 ?_
 have e1:((a.q.den:Int) * b.q.num = 0) = (b.q = 0):=by
  apply propext
  rw [<- Rat.num_eq_zero,Int.mul_eq_zero]
  exact ⟨fun h=>h.resolve_left (by have:=a.q.den_nz; omega),.inr⟩
 simp only [azt,e1]
 rfl
end Go.Lw
namespace Go.Lw
structure Pq where
  c:List Rat
  s:List Rat
  x:List Rat
  y:List Rat
def Pq.av (p:Pq):AV:=.agg [nA p.c,nA p.s,nA p.x,nA p.y]
structure Pq.ok (n e:Nat) (p:Pq):Prop where
  c:Nm n e p.c
  s:Nm n e p.s
  x:Nm n e p.x
  y:Nm n e p.y
def bqs (p:Pse):Pq:=⟨sh 0 (bbg p.turn.half p.turn.t.q:Rat),sh 0 (bbi p.turn.half p.turn.t.q:Rat),sh 0 (p.at_.x.q:Rat),sh 0 (p.at_.y.q:Rat)⟩
def ofE (ps:List Pse):Nat:=if ps.all Pse.ok = true then 0 else 2
theorem a72 {half:Bool} {t:Rat} {e:Nat} (h:Qb e t):Qb (4 * e + 6) (bbg half t):=by
 unfold bbg
 split
 ·exact Qb.one.neg.mono (by omega)
 ·exact ((Qb.one.sub (h.mul h)).div (Qb.one.add (h.mul h))).mono (by omega)
theorem a88 {half:Bool} {t:Rat} {e:Nat} (h:Qb e t):Qb (4 * e + 6) (bbi half t):=by
 unfold bbi
 split
 ·exact Qb.zero.mono (by omega)
 ·exact ((h.add h).div (Qb.one.add (h.mul h))).mono (by omega)
theorem bkw {n e:Nat} {q:Rat} (hn:n <= 5) (h:Qb e q):Nm n (e + e) (sh 0 (q:Rat)):=by
 have h1:Nl n (sh 0 (q:Rat)):=by
  have:Nl 0 (sh 0 (q:Rat)):=ang 0 _
  rcases this with h | ⟨j,hj,h⟩
  ·exact .inl h
  ·exact .inr ⟨j,by omega,h⟩
 refine ⟨hn,h1,?_⟩
 have hm:∀ p ∈ sh 0 (q:Rat), Qb e p:=by
  intro p hp
  have:p = q:=by
   unfold sh at hp
   split at hp
   ·cases hp
   ·exact List.mem_singleton.1 hp
  rw [this]; exact h
 obtain ⟨D,N,h3,h4,h5⟩:=aun hm
 have h6:(sh 0 (q:Rat)).length <= 1:=by
  rcases (ang 0 (q:Rat)) with h | ⟨j,hj,h⟩
  ·rw [h]; simp
  ·have : j = 0 := by omega
   subst this; rw [h]; simp
 have h7:e * (sh 0 (q:Rat)).length <= e * 1:=mul_le_mul_left _ h6
 exact ⟨D,N,h3,le_trans h4 (abf (by omega)),le_trans h5 (abf (by omega))⟩
def bau (ts:List (List Rat)) (b:Pl) (w:Pq):Bool :=
  eqT ts (dec ts.length (lq b.c)) (dec ts.length w.c) && eqT ts (dec ts.length (lq b.s)) (dec ts.length w.s) && eqT ts (dec ts.length (lq b.x)) (dec ts.length w.x) && eqT ts (dec ts.length (lq b.y)) (dec ts.length w.y)
def mE (a:As) (ps:List Pse):Nat :=
  if aeb a.rs ≠ 0 then aeb a.rs else if ofE ps ≠ 0 then ofE ps else if a.bs.length ≠ ps.length then 10 else aed (a.bs.map (fun b=>aaz a.rs b.l))
def mB (a:As) (ps:List Pse):Bool:=decide (mE a ps = 0) && (a.bs.zip ps).all (fun z=>bau (llq a.rs) z.1 (bqs z.2))
theorem a9g {α:Type} {l:List α} {f:α -> Nat} {i:Nat} {x:α} (hx:l[i]? = some x) (hb:∀ y ∈ l.take i, f y = 0) (hn:f x ≠ 0):aed (l.map f) = f x:=by
 have e:l = l.take i ++ l.drop i:=(List.take_append_drop i l).symm
 have hi:=(List.getElem?_eq_some_iff.1 hx).1
 have e2:l.drop i = x :: l.drop (i + 1):=by
  rw [List.drop_eq_getElem_cons hi,(List.getElem?_eq_some_iff.1 hx).2]
 rw [e, map_append, ahv _ _ (afz (fun v hv=>by
  obtain ⟨y,hy,rfl⟩:=List.mem_map.1 hv
  exact hb y hy)),e2]
 show (if f x ≠ 0 then f x else _) = _
 rw [if_pos hn]
theorem ag4 {rs:List (List Rt)} {b:Pl} (h:aaz rs b.l = 0) (hb:∀ x ∈ b.l, NR x 4000) (h5:rs.length <= 5) :
  b.av = Pq.av ⟨lq b.c,lq b.s,lq b.x,lq b.y⟩ /\ Pq.ok rs.length 4000 ⟨lq b.c,lq b.s,lq b.x,lq b.y⟩:=by
 have h1:=(ado h).2
 have g:∀ x ∈ b.l, nR x = nA (lq x) /\ Nm rs.length 4000 (lq x):=fun x hx=>by
  obtain ⟨e1,e2⟩:=(hb x hx).num (h1 x hx)
  exact ⟨e1,h5,e2,(hb x hx).cb⟩
 have c:=g b.c (by simp [Pl.l])
 have s:=g b.s (by simp [Pl.l])
 have x:=g b.x (by simp [Pl.l])
 have y:=g b.y (by simp [Pl.l])
 exact ⟨by unfold Pl.av Pq.av; rw [c.1,s.1,x.1,y.1],c.2,s.2,x.2,y.2⟩
end Go.Lw
namespace Go.Lw
instance:Inhabited Tn:=⟨⟨⟨false,[],[]⟩,false⟩⟩
def abi (n:Nat) (ok:Nat -> Bool):Option Nat:=(List.range n).find? (fun i=>!ok i)
theorem abx {n i:Nat} {ok:Nat -> Bool} (hi:i < n) (h:∀ j, j < i -> ok j = true) (he:ok i = false):abi n ok = some i:=by
 unfold abi
 rw [List.find?_range_eq_some]
 exact ⟨by rw [he]; rfl,by simpa using hi,fun j hj=>by rw [h j hj]; rfl⟩
theorem abj {n:Nat} {ok:Nat -> Bool} (h:∀ j, j < n -> ok j = true):abi n ok = none:=by
 unfold abi
 rw [List.find?_range_eq_none]
 exact fun j hj=>by rw [h j hj]; rfl
theorem ak9 {n:Nat} {ok:Nat -> Bool} (h:abi n ok = none):∀ j, j < n -> ok j = true:=by
 unfold abi at h
 rw [List.find?_range_eq_none] at h
 intro j hj
 have:=h j hj
 simpa using this
def ixI:Option Nat -> Int
  | none=>-1
  | some i=>i
theorem bq2 {o:Option Nat} (h:aaa .geq (ixI o) 0 = true):∃ i, o = some i:=by
 cases o with
 | none=>cases h
 | some i=>exact ⟨i,rfl⟩
theorem bro {o:Option Nat} (h:aaa .geq (ixI o) 0 = false):o = none:=by
 cases o with
 | none=>rfl
 | some i =>
  have h1:¬ ((i:Int) >= 0):=of_decide_eq_false h
  omega
def awk:Pq:=⟨[1],[],[],[]⟩
abbrev amy (ts:List (List Rat)) (x:List Rt):T ts.length:=dec ts.length (lq x)
def a29 (ts:List (List Rat)) (b:Pl):Bool:=eqT ts (bfa ts (amy ts b.c) (amy ts b.s) (amy ts b.c) (amy ts b.s)) (dec ts.length [1])
def akf (rs:List (List Rt)) (i:Nat) (b:Pl):Bool:=decide (aaz rs b.l = 0) && (a29 (llq rs) b && (decide (0 < i) || bau (llq rs) b awk))
def atP (ts:List (List Rat)) (b:Pl) (m:Mk):T ts.length × T ts.length:=(atX ts (amy ts b.c) (amy ts b.s) (amy ts b.x) m.x.q m.y.q,atY ts (amy ts b.c) (amy ts b.s) (amy ts b.y) m.x.q m.y.q)
def ai4 (l:Li) (a:As) (body pt:Int):T (llq a.rs).length × T (llq a.rs).length:=atP (llq a.rs) (a.bs.getD body.toNat default) ((adz l body).getD pt.toNat default)
def ag2 (l:Li) (a:As) (j:Jt):Bool :=
  if j.kind = 0 then eqT (llq a.rs) (ai4 l a j.a j.point).1 (ai4 l a j.b j.on).1 && eqT (llq a.rs) (ai4 l a j.a j.point).2 (ai4 l a j.b j.on).2
  else decide (T.sgn (aan (llq a.rs)) (llq a.rs).length (aib (llq a.rs) (ai4 l a j.b j.on).1 (ai4 l a j.b j.on).2 (ai4 l a j.b j.to).1 (ai4 l a j.b j.to).2 (ai4 l a j.a j.point).1 (ai4 l a j.a j.point).2) = 0)
def a4b (ts:List (List Rat)) (b:Pl) (x:Tn):Bool :=
  eqT ts (amy ts b.c) (dec ts.length (sh 0 (bbg x.half x.t.q:Rat))) && eqT ts (amy ts b.s) (dec ts.length (sh 0 (bbi x.half x.t.q:Rat)))
def ahi (l:Li) (xs:List Tn) (a:As) (i:Nat):Bool:=a4b (llq a.rs) (a.bs.getD (l.drivers.getD i default).body.toNat default) (xs.getD i default)
def flt (l:Li) (xs:List Tn) (a:As):Nat × Nat :=
  if aeb a.rs ≠ 0 \/ a.bs.length ≠ l.bodies.length then (1,0)
  else match abi a.bs.length (fun i=>akf a.rs i (a.bs.getD i default)) with
    | some i=>(2,i)
    | none=>match abi l.joints.length (fun i=>ag2 l a (l.joints.getD i default)) with
      | some i=>(3,i)
      | none=>match abi l.drivers.length (ahi l xs a) with
        | some i=>(4,i)
        | none=>(0,0)
def brq (p:Nat × Nat):AV:=.agg [i64 p.1,i64 p.2]
theorem bnf {l:Li} {xs:List Tn} {a:As} (h:aeb a.rs ≠ 0 \/ a.bs.length ≠ l.bodies.length):flt l xs a = (1,0):=by unfold flt; rw [if_pos h]
theorem bl6 {l:Li} {xs:List Tn} {a:As} (h:¬ (aeb a.rs ≠ 0 \/ a.bs.length ≠ l.bodies.length)) {i:Nat} (h1:abi a.bs.length (fun i=>akf a.rs i (a.bs.getD i default)) = some i):flt l xs a = (2, i):=by
 unfold flt; rw [if_neg h,h1]
theorem bos {l:Li} {xs:List Tn} {a:As} (h:¬ (aeb a.rs ≠ 0 \/ a.bs.length ≠ l.bodies.length)) {i:Nat} (h1:abi a.bs.length (fun i=>akf a.rs i (a.bs.getD i default)) = none)
  (h2:abi l.joints.length (fun i=>ag2 l a (l.joints.getD i default)) = some i):flt l xs a = (3,i):=by
 unfold flt; rw [if_neg h,h1]; show (match abi _ _ with | some i=>_ | none=>_) = _; rw [h2]
theorem bl9 {l:Li} {xs:List Tn} {a:As} (h:¬ (aeb a.rs ≠ 0 \/ a.bs.length ≠ l.bodies.length)) {i:Nat} (h1:abi a.bs.length (fun i=>akf a.rs i (a.bs.getD i default)) = none)
  (h2:abi l.joints.length (fun i=>ag2 l a (l.joints.getD i default)) = none) (h3:abi l.drivers.length (ahi l xs a) = some i):flt l xs a = (4,i):=by
 unfold flt; rw [if_neg h,h1]; show (match abi _ _ with | some i=>_ | none=>_) = _; rw [h2]; show (match abi _ _ with | some i=>_ | none=>_) = _; rw [h3]
theorem bll {l:Li} {xs:List Tn} {a:As} (h:¬ (aeb a.rs ≠ 0 \/ a.bs.length ≠ l.bodies.length)) (h1:abi a.bs.length (fun i=>akf a.rs i (a.bs.getD i default)) = none)
  (h2:abi l.joints.length (fun i=>ag2 l a (l.joints.getD i default)) = none) (h3:abi l.drivers.length (ahi l xs a) = none):flt l xs a = (0,0):=by
 unfold flt; rw [if_neg h,h1]; show (match abi _ _ with | some i=>_ | none=>_) = _; rw [h2]; show (match abi _ _ with | some i=>_ | none=>_) = _; rw [h3]
theorem abz {l:Li} (h:liE l = 0):ayb l = 0 /\ aq0 l = 0 /\ azh l = 0 /\ l.bodies.length <= 8 /\ l.bodies.length ≠ 0:=by
 unfold liE at h
 split at h
 ·cases h
 ·split at h
  ·cases h
  ·split at h
   ·cases h
   ·split at h
    ·rename_i h1; exact absurd h h1
    ·rename_i g1 _ h1
     split at h
     ·rename_i h2; exact absurd h h2
     ·rename_i h2; exact ⟨Decidable.not_not.1 h1,Decidable.not_not.1 h2,h,by omega,by omega⟩
theorem brh {l:Li} (h:liE l = 0) {i:Nat} {j:Jt} (hj:l.joints[i]? = some j):jt0 l j = 0:=by
 have h1:=(abz h).2.1
 unfold aq0 at h1
 split at h1
 ·cases h1
 ·have h2:=ail h1 i (List.getElem?_eq_some_iff.1 hj).1
  unfold jtE at h2
  rw [aaf hj] at h2
  split at h2
  ·cases h2
  ·split at h2
   ·cases h2
   ·exact h2
theorem aet {l:Li} (h:liE l = 0) {i:Nat} {j:Jt} (hj:l.joints[i]? = some j) :
  inB j.a l.bodies.length = true /\ inB j.b l.bodies.length = true /\ inB j.point (adz l j.a).length = true /\ inB j.on (adz l j.b).length = true /\ (j.kind ≠ 0 -> inB j.to (adz l j.b).length = true):=by
 have h1:=brh h hj
 unfold jt0 at h1
 split at h1
 ·cases h1
 ·split at h1
  ·cases h1
  ·rename_i h2
   split at h1
   ·cases h1
   ·split at h1
    ·cases h1
    ·rename_i h3
     have a1:inB j.a l.bodies.length = true:=by cases h:inB j.a l.bodies.length <;> simp_all
     have a2:inB j.b l.bodies.length = true:=by cases h:inB j.b l.bodies.length <;> simp_all
     have a3:inB j.point (adz l j.a).length = true:=by cases h:inB j.point (adz l j.a).length <;> simp_all
     have a4:inB j.on (adz l j.b).length = true:=by cases h:inB j.on (adz l j.b).length <;> simp_all
     refine ⟨a1,a2,a3,a4,fun hk=>?_⟩
     rw [if_neg hk] at h1
     split at h1
     ·cases h1
     ·rename_i h4; cases h:inB j.to (adz l j.b).length <;> simp_all
theorem az5 {l:Li} (h:liE l = 0) {i:Nat} {d:Dr} (hd:l.drivers[i]? = some d):inB d.body l.bodies.length = true:=by
 have h1:=(abz h).2.2.1
 unfold azh at h1
 split at h1
 ·cases h1
 ·have h2:=ail h1 i (List.getElem?_eq_some_iff.1 hd).1
  unfold drE at h2
  rw [aaf hd] at h2
  split at h2
  ·cases h2
  ·split at h2
   ·cases h2
   ·split at h2
    ·cases h2
    ·rename_i h3; cases h:inB d.body l.bodies.length <;> simp_all
theorem a1l {l:Li} (h:liE l = 0) {n k:Nat} {b:Bd} {m:Mk} (hb:l.bodies[n]? = some b) (hm:b.pts[k]? = some m):m.x.valid = true /\ m.y.valid = true:=by
 have h2:=ail (abz h).1 n (List.getElem?_eq_some_iff.1 hb).1
 unfold bdE at h2
 rw [aaf hb] at h2
 split at h2
 ·cases h2
 ·split at h2
  ·cases h2
  ·split at h2
   ·cases h2
   ·have h3:=ail h2 k (List.getElem?_eq_some_iff.1 hm).1
    unfold mkE at h3
    rw [aaf hm] at h3
    split at h3
    ·cases h3
    ·split at h3
     ·cases h3
     ·split at h3
      ·assumption
      ·cases h3
structure Good (l:Li) (a:As):Prop where
  lo:l.ok
  li:liE l = 0
  al:AL a
  ck:aeb a.rs = 0
  cb:∀ b ∈ a.bs,aaz a.rs b.l = 0
  ln:a.bs.length = l.bodies.length
theorem Good.tw {l:Li} {a:As} (h:Good l a):Tw (llq a.rs) 40000 /\ ae5 a.rs = ad7 (llq a.rs) /\ a.rs.length <= 5 /\ (llq a.rs).length = a.rs.length:=by
 obtain ⟨tw,hta⟩:=ab3 h.al.tr h.ck
 have h5:a.rs.length <= 5:=by have:=tw.five; rwa [length_map] at this
 exact ⟨tw,hta,h5,length_map _⟩
theorem Good.pl {l:Li} {a:As} (h:Good l a) {n:Nat} {b:Pl} (hb:a.bs[n]? = some b) :
  b.av = Pq.av ⟨lq b.c,lq b.s,lq b.x,lq b.y⟩ /\ Pq.ok (llq a.rs).length 4000 ⟨lq b.c,lq b.s,lq b.x,lq b.y⟩:=by
 have h1:=ag4 (h.cb b (mem_of_getElem? hb)) (h.al.nr b (mem_of_getElem? hb)) h.tw.2.2.1
 rw [h.tw.2.2.2]
 exact h1
structure AtP (l:Li) (a:As) (body pt:Int) (n k:Nat) (bd:Bd) (m:Mk) (b:Pl):Prop where
  hn:body = n
  hk:pt = k
  gbd:l.bodies[n]? = some bd
  gm:bd.pts[k]? = some m
  gb:a.bs[n]? = some b
  eq:ai4 l a body pt = atP (llq a.rs) b m
  mx:m.x.av = qA m.x.q
  my:m.y.av = qA m.y.q
  qx:Qb 4000 m.x.q
  qy:Qb 4000 m.y.q
theorem Good.at {l:Li} {a:As} (h:Good l a) {body pt:Int} (h1:inB body l.bodies.length = true) (h2:inB pt (adz l body).length = true):∃ n k bd m b, AtP l a body pt n k bd m b:=by
 obtain ⟨bd,g1,g2,g3,g4⟩:=aps h1
 rw [g2] at h2
 obtain ⟨m,g5,g6,g7,g8⟩:=asg h2
 obtain ⟨b,hb⟩:=abt (l:=a.bs) (i:=body.toNat) (by rw [h.ln]; exact (List.getElem?_eq_some_iff.1 g1).1)
 have hv:=a1l h.li g1 g5
 have ho:=(h.lo.bodies bd g3).pts m g7
 exact ⟨body.toNat, pt.toNat, bd, m, b, by omega, by omega, g1, g5, hb, by unfold ai4; rw [aaf hb, g2, g6],
  by rw [show qA m.x.q = (rt m.x.q).av from rfl,<- Rt.eq_rt ho.x hv.1],by rw [show qA m.y.q = (rt m.y.q).av from rfl,<- Rt.eq_rt ho.y hv.2],ho.qx.mono (by omega),ho.qy.mono (by omega)⟩
theorem kb4 {n:Nat} (h:n <= 3):kB 40000 n <= 280014:=a2a 40000 h
theorem bd7 {ts:List (List Rat)} {r:Nat} (tw:Tw ts r) {b:Pl} {m:Mk} (hb:Pq.ok ts.length 4000 ⟨lq b.c, lq b.s, lq b.x, lq b.y⟩) (hx:Qb 4000 m.x.q) (hy:Qb 4000 m.y.q) :
  Nm ts.length (4 * (4000 + 4000 + kB r ts.length) + 10000) (sh ts.length (atP ts b m).1) /\ Nm ts.length (4 * (4000 + 4000 + kB r ts.length) + 10000) (sh ts.length (atP ts b m).2):=by
 have nx:=Nm.ofQ tw.five (Cb.one hx)
 have ny:=Nm.ofQ tw.five (Cb.one hy)
 have nX:=ajz tw hb.c hb.s nx ny
 have nY:=aj3 tw hb.c hb.s nx ny
 have h1:=nX.add hb.x
 rw [ast] at h1
 have h2:=nY.add hb.y
 rw [as4] at h2
 exact ⟨h1.mono (by omega),h2.mono (by omega)⟩
def aos (l:Li) (xs:List Tn):Nat:=if liE l ≠ 0 then liE l else if xs.length ≠ l.drivers.length then 10 else aed (xs.map Tn.err)
theorem azn {l:Li} {xs:List Tn} (h:liE l ≠ 0):aos l xs = liE l:=by unfold aos; rw [if_pos h]
theorem atl {l:Li} {xs:List Tn} (h:liE l = 0) (h1:xs.length ≠ l.drivers.length):aos l xs = 10:=by unfold aos; rw [if_neg (by rw [h]; simp),if_pos h1]
theorem a86 {l:Li} {xs:List Tn} (h:liE l = 0) (h1:xs.length = l.drivers.length) {i:Nat} {x:Tn} (hx:xs[i]? = some x) (hb:∀ y ∈ xs.take i, y.err = 0) (hn:x.err ≠ 0):aos l xs = x.err:=by
 unfold aos; rw [if_neg (by rw [h]; simp),if_neg (by rw [h1]; simp),a9g hx hb hn]
theorem bgb {l:Li} {xs:List Tn} (h:liE l = 0) (h1:xs.length = l.drivers.length) (hb:∀ y ∈ xs, y.err = 0):aos l xs = 0:=by
 unfold aos; rw [if_neg (by rw [h]; simp),if_neg (by rw [h1]; simp)]
 exact afz (fun e he=>by obtain ⟨x,hx,rfl⟩:=List.mem_map.1 he; exact hb x hx)
theorem bii {l:Li} {xs:List Tn} (h:aos l xs = 0):liE l = 0 /\ xs.length = l.drivers.length /\ ∀ x ∈ xs, x.err = 0:=by
 unfold aos at h
 split at h
 ·rename_i h1; exact absurd h h1
 ·rename_i h1
  split at h
  ·cases h
  ·rename_i h2
   exact ⟨Decidable.not_not.1 h1,Decidable.not_not.1 h2,fun x hx=>aei h _ (List.mem_map.2 ⟨x,hx,rfl⟩)⟩
theorem bcf {n:Nat} (hn:n <= 5):awk.ok n 4000:=by
 have h1:Nm n 4000 ([1]:List Rat):=by
  have:=bkw (q:=1) hn Qb.one
  have e:sh 0 (1:Rat) = ([1]:List Rat):=rfl
  rw [e] at this
  exact this.mono (by omega)
 have h0:Nm n 4000 ([]:List Rat):=⟨hn,.inl rfl,Cb.nil.mono (by omega)⟩
 exact ⟨h1,h0,h0,h0⟩
theorem a9k {i:Nat} {p:Bool}:cond (aaa .gtr (i:Int) 0) true p = (decide ((0:Nat) = 0) && (true && (decide (0 < i) || p))):=by
 have e:aaa .gtr (i:Int) 0 = decide (0 < i):=decide_eq_decide.2 (by omega)
 rw [e,ahl,Bool.true_and,decide_eq_true rfl,Bool.true_and]
theorem bp0 {rs:List (List Rt)} {n m:Nat} (h:cond (aaa .neq ((aaz rs []:Nat):Int) 0) true (aaa .neq (n:Int) (m:Int)) = true):aeb rs ≠ 0 \/ n ≠ m:=by
 cases h1:aaa .neq ((aaz rs []:Nat):Int) 0
 ·rw [h1] at h; have:=ajb h; exact .inr (by omega)
 ·exact .inl (fun h2=>af6 h1 (ai6 h2 (fun x hx=>by cases hx)))
theorem bpy {rs:List (List Rt)} {n m:Nat} (h:cond (aaa .neq ((aaz rs []:Nat):Int) 0) true (aaa .neq (n:Int) (m:Int)) = false):¬ (aeb rs ≠ 0 \/ n ≠ m):=by
 cases h1:aaa .neq ((aaz rs []:Nat):Int) 0
 ·rw [h1] at h
  have h2:=ams h
  have h3:=(ado (af0 h1)).1
  rintro (g | g)
  ·exact g h3
  ·omega
 ·rw [h1] at h; cases h
theorem a0c {l:Li} {a:As} (hl:l.ok) (hli:liE l = 0) (ha:AL a) (hc:aeb a.rs = 0) (hln:a.bs.length = l.bodies.length) (hj:∀ j, j < a.bs.length -> akf a.rs j (a.bs.getD j default) = true):Good l a:=by
 refine ⟨hl,hli,ha,hc,fun b hb=>?_,hln⟩
 obtain ⟨i,hi,rfl⟩:=List.mem_iff_getElem.1 hb
 have h:=hj i hi
 rw [aaf (getElem?_eq_getElem hi)] at h
 unfold akf at h
 rw [and_eq_true,decide_eq_true_eq] at h
 exact h.1
structure DrP (l:Li) (xs:List Tn) (a:As) (i:Nat) (d:Dr) (n:Nat) (b:Pl) (x:Tn):Prop where
  hn:d.body = n
  gb:a.bs[n]? = some b
  gx:xs[i]? = some x
  ec:nR b.c = nA (lq b.c)
  es:nR b.s = nA (lq b.s)
  av:b.av = Pq.av ⟨lq b.c,lq b.s,lq b.x,lq b.y⟩
  po:Pq.ok (llq a.rs).length 4000 ⟨lq b.c,lq b.s,lq b.x,lq b.y⟩
  eq:ahi l xs a i = a4b (llq a.rs) b x
theorem Good.dr {l:Li} {a:As} (h:Good l a) {xs:List Tn} (hx:∀ x ∈ xs, x.t.ok /\ x.err = 0 /\ Qb 1000 x.t.q) (hxl:xs.length = l.drivers.length) {i:Nat} {d:Dr} (hd:l.drivers[i]? = some d):∃ n b x, DrP l xs a i d n b x:=by
 have h1:=ahg (az5 h.li hd)
 obtain ⟨b,hb⟩:=abt (l:=a.bs) (i:=d.body.toNat) (by rw [h.ln]; omega)
 obtain ⟨x,hxx⟩:=abt (l:=xs) (i:=i) (by rw [hxl]; exact (List.getElem?_eq_some_iff.1 hd).1)
 obtain ⟨g1,g2⟩:=h.pl hb
 have g3:=(ado (h.cb b (mem_of_getElem? hb))).2
 have g4:=h.al.nr b (mem_of_getElem? hb)
 exact ⟨d.body.toNat, b, x, by omega, hb, hxx, ((g4 b.c (by simp [Pl.l])).num (g3 b.c (by simp [Pl.l]))).1, ((g4 b.s (by simp [Pl.l])).num (g3 b.s (by simp [Pl.l]))).1, g1, g2,
  by unfold ahi; rw [aaf hd,aaf hb,aaf hxx]⟩
theorem bqh {e n m:Nat} (h:cond (!(ago (azk e))) true (aaa .neq (n:Int) (m:Int)) = true):e ≠ 0 \/ n ≠ m:=by
 cases h1:ago (azk e)
 ·exact .inl (bah h1)
 ·rw [h1] at h; have:=ajb h; exact .inr (by omega)
theorem bra {e n m:Nat} (h:cond (!(ago (azk e))) true (aaa .neq (n:Int) (m:Int)) = false):¬ (e ≠ 0 \/ n ≠ m):=by
 cases h1:ago (azk e)
 ·rw [h1] at h; cases h
 ·rw [h1] at h; have h2:=ams h; have h3:=a9h h1; omega
theorem bn2 (l:Li) (xs:List Tn) (a:As):(flt l xs a).1 = 0 -> (flt l xs a).2 = 0:=by
 unfold flt
 split
 ·intro h; cases h
 ·split
  ·intro h; cases h
  ·split
   ·intro h; cases h
   ·split
    ·intro h; cases h
    ·intro _; rfl
theorem beh {l:Li} {xs:List Tn} {a:As}:(((flt l xs a).1:Int) == 0 && ((flt l xs a).2:Int) == 0) = (decide ((0:Nat) = 0) && decide ((flt l xs a).1 = 0)):=by
 have h:=bn2 l xs a
 rw [Bool.eq_iff_iff]
 simp only [and_eq_true,beq_iff_eq,decide_eq_true_eq]
 constructor
 ·rintro ⟨g1,g2⟩; exact ⟨trivial,by omega⟩
 ·rintro ⟨_,g⟩; have:=h g; exact ⟨by omega,by omega⟩
end Go.Lw
namespace Go.Lw
theorem ahe (rs:List (List Rt)):(llq rs).length = rs.length:=by simp [llq]
abbrev Et (ts:List (List Rat)):Type:=E (aan ts) ts.length
def dE (ts:List (List Rat)) (a:List Rat):Et ts:=dec ts.length a
def sX {ts:List (List Rat)} (x:Et ts):List Rat:=sh ts.length x
class Ct (ts:List (List Rat)) (u k:outParam Nat):Prop where
  ex:∃ R,Tw ts R /\ eB R ts.length <= k
  k1:1 <= k
  u3:3 <= u
  ub:u <= 1000000
  kb:k <= 1000000
instance Ct.cx {ts:List (List Rat)} {u k:Nat} [c:Ct ts u k]:Cx (aan ts) ts.length u k:=by
  obtain ⟨R,tw,h⟩:=c.ex
  exact ⟨⟨R,blm tw ▸ tw,h⟩,c.k1,c.u3⟩
class Zl (ts:List (List Rat)) (u k:Nat) (a:List Rat) (x:outParam (Et ts)) (w v:outParam Nat):Prop where
  eq:dec ts.length a = x
  nm:Nm ts.length (w * u + v * k) a
section
variable {ts:List (List Rat)} {u k:Nat}
instance Zl.sX {x:Et ts} {w v:Nat} [h:Zu u k x w v]:Zl ts u k (sX x) x w v:=⟨aby _ _,h.nm⟩
instance Zl.q [c:Ct ts u k] {q:Rat} {w:Nat} [h:Qz u q w]:Zl ts u k (sh 0 (q:Rat)) (qE q:Et ts) w 0:=⟨am2 _ q, by
  obtain ⟨R,tw,_⟩:=c.ex
  exact (Nm.ofQ tw.five h.cb).eq (by omega)⟩
instance Zl.nil [c : Ct ts u k] : Zl ts u k [] (0 : Et ts) 0 0 := ⟨by rw [agm]; exact E.zero_def.symm, by
  obtain ⟨R,tw,_⟩:=c.ex
  exact ⟨tw.five,.inl rfl,Cb.nil.mono (zero_le _)⟩⟩
theorem Zl.zu {a:List Rat} {x:Et ts} {w v:Nat} (h:Zl ts u k a x w v):Zu u k x w v:=⟨by
 have h1:=h.nm
 have h2:=Cb.sh h1.cb h1.nl
 rw [h.eq] at h2
 exact ⟨h1.five,ang _ _,h2⟩⟩
theorem Zl.at {a:List Rat} {e:Nat} (h:Nm ts.length e a) (he:e <= u):Zl ts u k a (dE ts a) 1 0:=⟨rfl,h.mono (by omega)⟩
theorem bpu (c:Ct ts u k) {w v m:Nat} (h:w + v <= m):w * u + v * k <= m * 1000000:=by
 have h1:w * u <= w * 1000000:=mul_le_mul_left _ c.ub
 have h2:v * k <= v * 1000000:=mul_le_mul_left _ c.kb
 omega
theorem Zl.up (c:Ct ts u k) {a:List Rat} {x:Et ts} {w v m:Nat} (h:Zl ts u k a x w v) (hm:w + v <= m):Nm ts.length (m * 1000000) a:=h.nm.mono (bpu c hm)
theorem Ct.kk (c:Ct ts u k) {R:Nat} (h:eB R ts.length <= k):kB R ts.length <= 1000000:=le_trans h c.kb
def dotE (x y z t:Et ts):Et ts:=x * z + y * t
def crsE (x y z t:Et ts):Et ts:=x * t - y * z
instance Zu.dotE [c:Ct ts u k] {x y z t:Et ts} {w1 v1 w2 v2 w3 v3 w4 v4:Nat} [Zu u k x w1 v1] [Zu u k y w2 v2] [Zu u k z w3 v3] [Zu u k t w4 v4]:Zu u k (dotE x y z t) (w1 + w3 + (w2 + w4)) (v1 + v3 + 1 + (v2 + v4 + 1) + 1) :=
  (inferInstance:Zu u k (x * z + y * t) _ _)
instance Zu.crsE [c:Ct ts u k] {x y z t:Et ts} {w1 v1 w2 v2 w3 v3 w4 v4:Nat} [Zu u k x w1 v1] [Zu u k y w2 v2] [Zu u k z w3 v3] [Zu u k t w4 v4]:Zu u k (crsE x y z t) (w1 + w4 + (w2 + w3)) (v1 + v4 + 1 + (v2 + v3 + 1) + 1) :=
  (inferInstance:Zu u k (x * t - y * z) _ _)
end
end Go.Lw
namespace Go.Lw
structure Vr where
  w:List Rt
  x:List Rt
  y:List Rt
instance:Inhabited Vr:=⟨⟨[],[],[]⟩⟩
def Vr.av (v:Vr):AV:=.agg [nR v.w,nR v.x,nR v.y]
def Vr.l (v:Vr):List (List Rt):=[v.w,v.x,v.y]
def vlB (a:As) (r:List Vr):Bool :=
  a.bs.all (fun b=>aki a.rs b.l) && (r.all (fun x=>aki a.rs x.l) && (decide (a.bs.length <= 20 /\ r.length <= 20) && (aki a.rs [] && decide (a.rs.length <= 2 \/ 5 < a.rs.length))))
structure VL (a:As) (r:List Vr):Prop where
  al:AL a
  nr:∀ x ∈ r,∀ y ∈ x.l,NR y 4000
  rl:r.length <= 20
theorem brp {a:As} {r:List Vr} (h:vlB a r = true) (ha:a.ok) (hr:∀ x ∈ r, ane x.l):VL a r:=by
 unfold vlB at h
 simp only [and_eq_true,decide_eq_true_eq,all_eq_true] at h
 obtain ⟨h1,h2,h3,h4,h5⟩:=h
 refine ⟨brk ?_ ha,fun x hx=>(azu (h2 x hx) ha.rs (hr x hx)).nr,h3.2⟩
 unfold asB
 simp only [and_eq_true,decide_eq_true_eq,all_eq_true]
 exact ⟨h1,⟨h3.1,h4⟩,h5⟩
theorem AL.ct {a:As} (h:AL a) (hc:aeb a.rs = 0):Ct (llq a.rs) 4000 300000:=by
 obtain ⟨tw,_⟩:=ab3 h.tr hc
 exact ⟨⟨40000,tw,le_trans (a2a 40000 tw.three) (by omega)⟩,by omega,by omega,by omega,by omega⟩
end Go.Lw
namespace Go.Lw
open Go.Proofs
theorem apw (m:List Nat) (hm:Ws m) (hl:m.length <= lim):FnC prog 260 [ws m] (bl (!decide (m = []) && (⟨false, m⟩:Wh).valid)):=by
 refine gF0 func260 ?_
 refine gl ?_
 refine glG ?_
 refine gaG (fun h=>(ady (by simp [aaa] at h; omega) (by unfold lim at hl; unfold acr; exact le_trans hl (by omega)))) ?_
 refine giG (fun h=>(aho (i:=m.length - 1) (by simp [aaa] at h; omega))) ?_
 refine gE1 ?_
 by_cases h:m = []
 ·subst h; rfl
 ·have h1:0 < m.length:=List.length_pos_iff.2 h
  have h2:aaa .gtr (m.length:Int) 0 = true:=by simp [aaa,h1]
  simp only [bl,h,decide_false,Bool.not_false,Bool.true_and,Wh.valid,List.getLast?_eq_getElem?,ad0 (show m.length - 1 < m.length by omega),aaa]
  congr 2
  generalize aab m _ = x
  rw [Bool.eq_iff_iff]; simp [h1]
theorem apr:FnC prog 263 [] (zA 1):=by
 refine gF0 func263 ?_
 refine gc (a1u 1 (by omega)) ?_
 refine gE1 ?_
 first | rfl | (simp; done)
theorem ags (r:Rt) (h:r.ok):FnC prog 182 [r.av] (bl r.valid):=by
 have hr:=h
 have hn:=h.n0
 have hd:=h.d0
 have hl1:r.num.length <= 137438953472:=h.2.2.1
 have hl2:r.den.length <= 137438953472:=h.2.2.2
 refine gF0 func182 ?_
 refine gl ?_
 refine glG ?_
 refine gC (fun ht12=>?_) (fun ht12=>?_)
 ·have h0 : r.num = [] /\ r.den = [] := by simpa [aaa] using ht12
  refine gE1 ?_
  unfold Rt.valid; rw [if_pos h0]; rfl
 ·have h0:¬ (r.num = [] /\ r.den = []):=by
   have:=ht12
   simp [aaa] at this
   exact fun h=>this h.1 h.2
  refine gc (apw r.num hr.1 hr.2.2.1) ?_
  refine gcG (fun _=>(apw r.den hr.2.1 hr.2.2.2)) ?_
  refine gcG (fun _=>(axg r.n0 r.d0 hn hd (by show r.num.length + r.den.length < _; unfold big; omega))) ?_
  refine gcG (fun _=>apr) ?_
  refine gcG (fun _=>(bn0 (Rt.gcd_zs hr) zs1)) ?_
  refine gE1 ?_
  exact congrArg bl (a6u h0).symm
theorem adm (r:Rt) (h:r.ok):FnC prog 264 [r.av] (.tup [zA r.q.num, zA r.q.den]):=by
 have hl1:r.num.length <= 137438953472:=h.2.2.1
 have hl2:r.den.length <= 137438953472:=h.2.2.2
 refine gF0 func264 ?_
 refine gc (ags r h) ?_
 refine glG ?_
 refine gC (fun ht12=>?_) (fun ht12=>?_)
 ·have h0:¬ (r.valid = true /\ r.num ≠ []):=by
   have:=ht12
   intro h'
   simp [aaa,h'.1,h'.2] at this
  refine gc apr ?_
  refine gR ?_
  exact ac3 (by rw [Rt.zero h0]; exact Sub.tup (.cons bgo (.cons (.refl _) .nil)))
 ·have h0:r.valid = true /\ r.num ≠ []:=by
   have:=ht12
   cases hv:r.valid
   ·rw [hv] at this; cases this
   ·rw [hv] at this; exact ⟨rfl,by simpa [aaa] using this⟩
  obtain ⟨e1,e2,e3,e4,e5,e6⟩:=Rt.parts h h0.1 h0.2
  refine gD ?_
  refine gE2 ?_
  rw [e1,e2]; exact a1a e3 e4 e5
theorem ah0 {n d:Int} (hn:Zs n) (hd:Zs d) (h0:d ≠ 0):FnC prog 266 [zA n, zA d] (qA (Rat.divInt n d)):=by
 refine gF0 func266 ?_
 refine gc (at7 hn) ?_
 refine gC (fun ht14=>?_) (fun ht14=>?_)
 ·have e0 : n = 0 := Int.sign_eq_zero_iff_zero.1 (by simpa [aaa] using ht14)
  refine gR ?_
  exact adc (by rw [e0,Rat.zero_divInt]; exact ai2)
 ·have e0 : n ≠ 0 := fun h => by rw [h] at ht14; cases ht14
  refine gc (at7 hd) ?_
  refine gJ2 [2,3,4] [4] (fun (n1 d1:Int)=>[]) (fun n1 d1=>[(2,some (.box (zA n1).cells)),(3,some (.box (zA d1).cells))]) (fun n1 d1=>0 < d1 /\ n1 ≠ 0 /\ Zs n1 /\ Zs d1 /\ Rat.divInt n1 d1 = Rat.divInt n d) ?_ ?_
  ·intro K1 hK1
   refine gC (fun ht18=>?_) (fun ht18=>?_)
   ·have e1 : d < 0 := Int.sign_eq_neg_one_iff_neg.1 (by have := Int.sign_trichotomy d; have h9 : d.sign < 0 := (by simpa [aaa] using ht18); omega)
    refine gc (a8s hn) ?_
    refine gc (a8s hd) ?_
    refine gD ?_
    exact jK2 hK1 (-n) (-d) ⟨by omega,by omega,hn.neg,hd.neg,aqz n d⟩
   ·have e1:0 < d:=by
     have h9:0 <= d.sign:=by simpa [aaa] using ht18
     have:=Int.sign_nonneg_iff.1 h9
     omega
    exact jK2 hK1 n d ⟨e1,e0,hn,hd,rfl⟩
  ·rintro n1 d1 ⟨f1, f2, f3, f4, f5⟩
   have g2:Zs (Int.gcd n1 d1:Int):=f3.of_le (by rw [natAbs_natCast]; exact Nat.le_of_dvd (by omega) (Int.gcd_dvd_natAbs_left _ _))
   have g3:(Int.gcd n1 d1:Int) ≠ 0:=by have:=Int.gcd_pos_of_ne_zero_left d1 f2; omega
   refine gc (blg f3 f4) ?_
   refine gc (be3 f3 g2 g3) ?_
   refine gc (be3 f4 g2 g3) ?_
   refine gE1 ?_
   rw [<- f5,<- bdw f1 f2]; rfl
theorem a4z {n d:Int} (hn:Zs n) (hd:Zs d):FnC prog 333 [zA n, zA d] (.tup [qA (Rat.divInt n d), i64 (if d = 0 then 8 else 0)]):=by
 refine gF0 func333 ?_
 refine gc (at7 hd) ?_
 refine gC (fun ht8=>?_) (fun ht8=>?_)
 ·have h0 : d = 0 := Int.sign_eq_zero_iff_zero.1 (by simpa [aaa] using ht8)
  refine gR ?_
  exact ac3 (by rw [if_pos h0,h0,Rat.divInt_zero]; exact Sub.tup (.cons ai2 (.cons (.refl _) .nil)))
 ·have h0 : d ≠ 0 := fun h => by rw [h] at ht8; cases ht8
  refine gc (ah0 hn hd h0) ?_
  refine gE2 ?_
  rw [if_neg h0]; rfl
theorem aml (n:Int) (h:-9223372036854775808 <= n /\ n <= 9223372036854775807):FnC prog 189 [i64 n] (qA n):=by
 have hz:Zs n:=⟨2,by omega,by unfold Lz; simp only [Nat.reducePow]; omega⟩
 refine gF0 func189 ?_
 refine gc (a1u n h) ?_
 refine gc apr ?_
 refine gc (ah0 hz zs1 (by omega)) ?_
 refine gE1 ?_
 exact congrArg qA (Rat.num_divInt_den (n:Rat))
theorem axd (a:Rt) (ha:a.ok):FnC prog 210 [a.av] (qA (-a.q)):=by
 have za:=ha.qs
 refine gF0 func210 ?_
 refine gc (adm a ha) ?_
 refine gc (a8s za.num) ?_
 refine gc (ah0 za.num.neg za.den (by have:=a.q.den_nz; omega)) ?_
 refine gD ?_
 refine gE1 ?_
 rw [a87]; rfl
theorem aj2 (a:Rt) (ha:a.ok):FnC prog 183 [a.av] (i64 (af7 a.q)):=by
 refine gF0 func183 ?_
 refine gc (adm a ha) ?_
 refine gc (at7 ha.qs.num) ?_
 refine gE1 ?_
 rw [a04]
theorem al9 (a b:Rt) (ha:a.ok) (hb:b.ok):FnC prog 188 [a.av, b.av] (qA (a.q + b.q)):=by
 have za:=ha.qs
 have zb:=hb.qs
 have m1:=za.mul zb
 have m2:=zb.mul za
 refine gF0 func188 ?_
 refine gc (adm a ha) ?_
 refine gc (adm b hb) ?_
 refine gc (apk za.num zb.den) ?_
 refine gc (apk zb.num za.den) ?_
 refine gc (bk7 m1.1 m2.1) ?_
 refine gc (apk za.den zb.den) ?_
 refine gc (ah0 (za.cross zb) m1.2.2.1 (Int.mul_ne_zero (by have:=a.q.den_nz; omega) (by have:=b.q.den_nz; omega))) ?_
 refine gD ?_
 refine gE1 ?_
 rw [aze]; rfl
theorem awy (a b:Rt) (ha:a.ok) (hb:b.ok):FnC prog 192 [a.av, b.av] (qA (a.q - b.q)):=by
 refine gF0 func192 ?_
 refine gc (axd b hb) ?_
 refine gc (al9 a (rt (-b.q)) ha hb.qs.neg.ok) ?_
 refine gD ?_
 refine gE1 ?_
 rw [agd,<- Rat.sub_eq_add_neg]; rfl
theorem axk (a b:Rt) (ha:a.ok) (hb:b.ok):FnC prog 190 [a.av, b.av] (qA (a.q * b.q)):=by
 have za:=ha.qs
 have zb:=hb.qs
 have m1:=za.mul zb
 refine gF0 func190 ?_
 refine gc (adm a ha) ?_
 refine gc (adm b hb) ?_
 refine gc (apk za.num zb.num) ?_
 refine gc (apk za.den zb.den) ?_
 refine gc (ah0 m1.2.1 m1.2.2.1 (Int.mul_ne_zero (by have:=a.q.den_nz; omega) (by have:=b.q.den_nz; omega))) ?_
 refine gD ?_
 refine gE1 ?_
 rw [az9]; rfl
theorem a8m (a b:Rt) (ha:a.ok) (hb:b.ok):FnC prog 270 [a.av, b.av] (.tup [qA (a.q / b.q), i64 (if b.q = 0 then 8 else 0)]):=by
 have za:=ha.qs
 have zb:=hb.qs
 have m1:=za.mul zb
 refine gF0 func270 ?_
 refine gc (adm a ha) ?_
 refine gc (adm b hb) ?_
 refine gc (apk za.num zb.den) ?_
 refine gc (apk za.den zb.num) ?_
 refine gc (a4z m1.1 m1.2.2.2) ?_
 refine gD ?_
 refine gE2 ?_
 have e1:((a.q.den:Int) * b.q.num = 0) = (b.q = 0):=by
  apply propext
  rw [<- Rat.num_eq_zero,Int.mul_eq_zero]
  exact ⟨fun h=>h.resolve_left (by have:=a.q.den_nz; omega),.inr⟩
 simp only [azt,e1]
 rfl
theorem awq (a b:Rt) (ha:a.ok) (hb:b.ok) (hs:Qs (a.q - b.q)):FnC prog 237 [a.av, b.av] (i64 (af7 (a.q - b.q))):=by
 refine gF0 func237 ?_
 refine gc (awy a b ha hb) ?_
 refine gc (aj2 (rt (a.q - b.q)) hs.ok) ?_
 refine gE1 ?_
 rw [agd]
end Go.Lw
namespace Go.Lw
open Go.Proofs
theorem ae3 {α:Type} (f:α -> AV) (l:List α) (hl:l.length <= 281474976710656):FnC prog 180 [.lst 3 (l.map f)] (i64 (lvl l.length)):=by
 refine gF0 func180 ?_
 refine gL1 [0] [] (fun (k:Nat)=>[(3,some (i64 k))]) (fun _=>[]) (fun k=>k <= 48 /\ ∀ j,j < k -> 2 ^ j < l.length) (fun k=>48 - k) 0 ⟨by omega,fun j h=>by omega⟩ ?_
 rintro k ⟨hk,hj⟩ K1 hK1
 refine gs (ag5 (.const _) (.tmp rfl) (by omega) (aj9 (by omega)) rfl) ?_
 refine gl ?_
 refine gC (fun ht8=>?_) (fun ht8=>?_)
 ·have h1 : 2 ^ k < l.length := by have := ht8; simp only [aaa, decide_eq_true_eq] at this; omega
  have h2:k < 48:=by
   rcases lt_or_ge k 48 with h | h
   ·exact h
   ·have:2 ^ 48 <= 2 ^ k:=abf h
    have:(2:Nat) ^ 48 = 281474976710656:=by decide
    omega
  refine ga (aa1 (by omega)) ?_
  exact gK1 hK1 (k + 1) ⟨by omega,fun j h=>by rcases lt_or_ge j k with h3 | h3; exact hj j h3; (have:j = k:=by omega); subst this; exact h1⟩
 ·have h1 : l.length <= 2 ^ k := by have := ht8; simp only [aaa, decide_eq_false_iff_not] at this; omega
  have h2:=a74 hj h1
  refine gs (ag5 (.const _) (.tmp rfl) (by omega) (aj9 (by omega)) rfl) ?_
  refine gl ?_
  refine gC (fun ht15=>?_) (fun ht15=>?_)
  ·have h3 : 2 ^ k ≠ l.length := by have := ht15; simp only [aaa, bne_iff_ne, ne_eq] at this; omega
   refine gE1 ?_
   unfold lvl; rw [h2,if_neg h3]; rfl
  ·have h3 : 2 ^ k = l.length := by have := ht15; simp only [aaa, bne_eq_false_iff_eq] at this; omega
   refine gE1 ?_
   unfold lvl; rw [h2,if_pos h3]
theorem akr (ts:List (List Rt)) (a:List Rt) (ha:∀ r ∈ a, r.ok) (hl:a.length <= 281474976710656) (ht:ts.length <= 281474976710656):FnC prog 178 [ae5 ts, nR a] (ah7 (agk ts.length a)):=by
 refine gF0 func178 ?_
 refine gl ?_
 refine gJ0 [1,4] [] [] [] (¬ (a ≠ [] /\ (lvl a.length < 0 \/ (ts.length:Int) < lvl a.length))) ?_ ?_
 ·intro K1 hK1
  refine gC (fun ht10=>?_) (fun ht10=>?_)
  ·have h0 : a ≠ [] := fun h => by rw [h] at ht10; simp [aaa] at ht10
   refine gc (ae3 Rt.av a hl) ?_
   refine glG ?_
   refine gC (fun ht21=>?_) (fun ht21=>?_)
   ·have h1:lvl a.length < 0 \/ (ts.length:Int) < lvl a.length:=by
     have h9:=ht21
     by_cases h:lvl a.length < 0
     ·exact .inl h
     ·simp only [aaa,decide_eq_false h,cond_false,decide_eq_true_eq] at h9; exact .inr h9
    refine gE1 ?_
    unfold agk; rw [if_pos ⟨h0,h1⟩]; rfl
   ·have h1:¬ (lvl a.length < 0 \/ (ts.length:Int) < lvl a.length):=by
     have h9:=ht21
     by_cases h:lvl a.length < 0
     ·simp only [aaa,decide_eq_true h,cond_true] at h9; cases h9
     ·simp only [aaa, decide_eq_false h, cond_false, decide_eq_false_iff_not] at h9
      exact fun h'=>h'.elim h h9
    exact jK0 hK1 (fun h=>h1 h.2)
  ·have h0:a = []:=by
    cases a with
    | nil=>rfl
    | cons c l=>simp [aaa] at ht10
   exact jK0 hK1 (fun h=>h.1 h0)
 ·rintro hn
  refine gl ?_
  refine gL1 [23,24] [] (fun (i:Nat)=>[(25,some (i64 i))]) (fun _=>[]) (fun i=>i <= a.length /\ (a.take i).all Rt.valid = true) (fun i=>a.length - i) 0 ⟨zero_le _,by simp⟩ ?_
  rintro i ⟨hi,hv⟩ K2 hK2
  refine gC (fun ht26=>?_) (fun ht26=>?_)
  ·have hin : i < a.length := by simpa [aaa] using ht26
   obtain ⟨r,hr⟩:=abt hin
   have hrok:=ha r (mem_of_getElem? hr)
   refine gi (aae hr) ?_
   refine gc (acg r hrok) ?_
   refine gC (fun ht31=>?_) (fun ht31=>?_)
   ·have hrv : r.valid = false := by simpa using ht31
    refine gE1 ?_
    unfold agk
    rw [if_neg hn,if_neg]
    ·rfl
    ·rw [all_eq_true]
     intro h
     rw [h r (mem_of_getElem? hr)] at hrv; cases hrv
   ·have hrv : r.valid = true := by simpa using ht31
    refine ga aat ?_
    exact gK1 hK2 (i + 1) ⟨by omega,by rw [aao hr,all_append,hv]; simp [hrv]⟩
  ·have hin : i = a.length := by have : a.length <= i := (by simpa [aaa] using ht26); omega
   subst hin
   rw [take_length] at hv
   refine gE1 ?_
   unfold agk; rw [if_neg hn,if_pos hv]; rfl
theorem aol (a:List Rat) (ha:∀ q ∈ a, Qs q) (hl:a.length <= 281474976710656):FnC prog 203 [nA a] (bl (abo a)):=by
 refine gF0 func203 ?_
 refine gl ?_
 refine gL1 [5,6] [] (fun (i:Nat)=>[(7,some (i64 i))]) (fun _=>[]) (fun i=>i <= a.length /\ abo (a.take i) = true) (fun i=>a.length - i) 0 ⟨zero_le _,by simp [abo]⟩ ?_
 rintro i ⟨hi,hv⟩ K1 hK1
 refine gC (fun ht8=>?_) (fun ht8=>?_)
 ·have hin : i < a.length := by simpa [aaa] using ht8
  obtain ⟨q,hq⟩:=abt hin
  have hqs:=ha q (mem_of_getElem? hq)
  refine gi (aae hq) ?_
  refine gc (ae4 (rt q) hqs.ok) ?_
  refine gC (fun ht13=>?_) (fun ht13=>?_)
  ·have h0:q ≠ 0:=by
    intro h
    have h9:=ht13
    rw [agd,h] at h9
    cases h9
   refine gE1 ?_
   have:abo a = false:=by
    rw [Bool.eq_false_iff]
    intro h
    exact h0 (by simpa using List.all_eq_true.1 h q (mem_of_getElem? hq))
   rw [this]; rfl
  ·have h0:q = 0:=by
    have h9:af7 q = 0:=by have:=ht13; rw [agd] at this; simpa [aaa] using this
    exact ai7 h9
   refine ga aat ?_
   exact gK1 hK1 (i + 1) ⟨by omega,by rw [aao hq]; simp only [abo,all_append,and_eq_true]; exact ⟨hv,by simp [h0]⟩⟩
 ·have hin : i = a.length := by have : a.length <= i := (by simpa [aaa] using ht8); omega
  subst hin
  rw [take_length] at hv
  refine gE1 ?_
  rw [hv]; rfl
theorem alv (a:List Rat) (hl:a.length <= 281474976710656):FnC prog 202 [nA a] (bl (abo a)):=by
 refine gF0 func202 ?_
 refine gl ?_
 refine gL1 [5,6] [] (fun (i:Nat)=>[(7,some (i64 i))]) (fun _=>[]) (fun i=>i <= a.length /\ abo (a.take i) = true) (fun i=>a.length - i) 0 ⟨zero_le _,by simp [abo]⟩ ?_
 rintro i ⟨hi,hv⟩ K1 hK1
 refine gC (fun ht8=>?_) (fun ht8=>?_)
 ·have hin : i < a.length := by simpa [aaa] using ht8
  obtain ⟨q,hq⟩:=abt hin
  refine gi (aae hq) ?_
  refine glG ?_
  refine glG ?_
  refine gC (fun ht24=>?_) (fun ht24=>?_)
  ·have h0:q ≠ 0:=a0s ht24
   refine gE1 ?_
   have:abo a = false:=by
    rw [Bool.eq_false_iff]
    intro h
    exact h0 (by simpa using List.all_eq_true.1 h q (mem_of_getElem? hq))
   rw [this]; rfl
  ·have h0:q = 0:=awh ht24
   refine ga aat ?_
   exact gK1 hK1 (i + 1) ⟨by omega,by rw [aao hq]; simp only [abo,all_append,and_eq_true]; exact ⟨hv,by simp [h0]⟩⟩
 ·have hin : i = a.length := by have : a.length <= i := (by simpa [aaa] using ht8); omega
  subst hin
  rw [take_length] at hv
  refine gE1 ?_
  rw [hv]; rfl
theorem ar6 (a:List Rat) (ha:∀ q ∈ a, Qs q) (hl:a.length <= 1099511627776):FnC prog 201 [nA a] (nA a):=by
 refine gF0 func201 ?_
 refine gl ?_
 refine gW (Wk.virt 900 3 rfl) ?_
 refine gL1 [6,7] [] (fun (i:Nat)=>[(3,some (.ms 900 3 0 i)),(8,some (i64 i))]) (fun i=>[(900,some (.row 3 ((a.take i).map qA)))]) (fun i=>i <= a.length) (fun i=>a.length - i) 0 (zero_le _) ?_
 rintro i hi K1 hK1
 refine gC (fun ht9=>?_) (fun ht9=>?_) (st2:=(7,0))
 ·have hin : i < a.length := by simpa [aaa] using ht9
  obtain ⟨q,hq⟩:=abt hin
  have hqs:=(ha q (mem_of_getElem? hq)).ok
  have hl1:(rt q).num.length <= 137438953472:=hqs.2.2.1
  have hl2:(rt q).den.length <= 137438953472:=hqs.2.2.2
  refine gi (aae hq) ?_
  refine gs (acw T68 rfl T231 rfl rfl rfl) ?_
  refine gs (agl (.tmp rfl) rfl rfl (.tmp rfl) T68 rfl T231 rfl rfl (by simp only [length_map]; omega) rfl rfl) ?_
  refine gs (acw T68 rfl T231 rfl rfl rfl) ?_
  refine gs (agl (.tmp rfl) rfl rfl (.tmp rfl) T68 rfl T231 rfl rfl (by simp only [length_map]; omega) rfl rfl) ?_
  refine gs (abu (.tmp rfl) rfl (by simp; omega) (.tmp rfl) T65 rfl T70 rfl rfl (by simp; omega) rfl rfl) ?_
  refine gD ?_ (6,0)
  refine gW (Wk.of (sl:=[(3,some (.ms 25 3 0 (i + 1))),(6,some (nA a)),(7,some (i64 a.length)),(8,some (i64 i))]) (hp:=[(25,some (.row 3 ((a.take (i + 1)).map qA)))]) ab0 (.cons rfl (BlkSub.of (by rw [aao hq,map_append]; rfl)) .nil)) ?_ (6,0)
  refine gW (Wk.rekey (k:=25) (d:=900) rfl rfl) ?_
  refine ga aat ?_
  exact gK1 hK1 (i + 1) hin
 ·have hin : i = a.length := by have : a.length <= i := (by simpa [aaa] using ht9); omega
  subst hin
  refine gW ((Wk.freeze (k:=900) rfl).trans <| Wk.of (sl:=[(3,some (nA a))]) (hp:=[]) (.cons rfl (Sub.of (by rw [ab8 (by simp),take_length]; rfl)) .nil) .nil) ?_
  refine gE1 ?_
  rfl
end Go.Lw
namespace Go.Lw
open Go.Proofs
theorem adx {n:Nat} (a:List Rat) (hn:n <= 5) (ha:Nl n a) (hs:∀ q ∈ a, Qs q):FnC prog 120 [nA a] (nA (sh n (dec n a))):=by
 have hl:=ha.len5 hn
 rw [<- ajl ha hn]
 refine gF0 func120 ?_
 refine gc (ae3 qA a (by omega)) ?_
 refine gl ?_
 refine gC (fun ht17=>?_) (fun ht17=>?_) (st1:=(3,0))
 ·exact absurd ht17 (by rcases ha with rfl | ⟨j,hj,h⟩; (simp [aaa]); (rw [h,am4]; simp [aaa]; omega))
 ·refine gl ?_
  refine gL1 [0] [] (fun (m:Nat)=>[(4,some (i64 m))]) (fun _=>[]) (fun m=>bet a m) (fun m=>m) a.length (a7o (ha.mono hn)) ?_
  rintro m hm K1 hK1
  refine gs (acd rfl rfl rfl (fun h=>aee (.opt rfl (o1 h)) (.const _) (by omega) (acj (by have:=hm.le; omega)) rfl)) ?_
  refine gs (acd rfl rfl rfl (fun h=>aaq (.opt rfl (o1 h)) (.some _ (.opt rfl (o1 h)) (by omega)) (.some _ (.opt rfl (o1 h)) (by omega)) T65 rfl T70 rfl (by omega) (by have:=hm.le; simp; omega) rfl)) ?_
  refine gcG (fun _=>(by have h9:=alv ((a.drop (m / 2)).take (m - m / 2)) (by simp; omega); rw [<- axn] at h9; exact h9)) ?_
  refine gC (fun ht31=>?_) (fun ht31=>?_)
  ·have h1:1 < m /\ abo ((a.drop (m / 2)).take (m - m / 2)) = true:=by
    have h9:=ht31
    by_cases h:(m:Int) > 1
    ·simp only [aaa,decide_eq_true h,cond_true] at h9; exact ⟨by omega,h9⟩
    ·simp only [aaa,decide_eq_false h,cond_false] at h9; cases h9
   refine gs (aee (.tmp rfl) (.const _) (by omega) (acj (by have:=hm.le; omega)) rfl) ?_
   exact gK1 hK1 (m / 2) (a5u hm h1.1 h1.2)
  ·have h1:1 < m -> abo ((a.drop (m / 2)).take (m - m / 2)) = false:=by
    intro h
    have h9:=ht31
    simp only [aaa,decide_eq_true (show (m:Int) > 1 by omega),cond_true] at h9
    exact h9
   refine gs (acd rfl rfl rfl (fun h=>aaq (.opt rfl (o1 h)) (.none _) (.some _ (.const _) (by omega)) T65 rfl T70 rfl (by omega) (by have h8:(m:Int) = 1:=(by simpa [aaa] using h); have:=hm.le; simp only [length_map]; omega) rfl)) ?_
   refine gcG (fun _=>(by have h9:=alv ((a.drop 0).take 1) (by simp; omega); rw [<- axn] at h9; exact h9)) ?_
   refine gC (fun ht40=>?_) (fun ht40=>?_)
   ·have h2:m = 1 /\ abo (a.take 1) = true:=by
     have h9:=ht40
     by_cases h:m = 1
     ·rw [h] at h9; exact ⟨h,h9⟩
     ·rw [show aaa .eql (m:Int) 1 = false by simp [aaa]; omega] at h9; cases h9
    obtain ⟨rfl,h3⟩:=h2
    refine gR ?_
    exact adc (by rw [a83 hm h3]; exact Sub.nil _ _ _)
   ·have h2:m = 1 -> abo (a.take 1) = false:=by
     intro h
     have h9:=ht40
     rw [h] at h9; exact h9
    have h3:=a7j hm h1 h2
    refine gs (aaq (.tmp rfl) (.none _) (.some _ (.tmp rfl) (by omega)) T65 rfl T70 rfl (by omega) (by have:=hm.le; simp; omega) rfl) ?_
    refine gc (by have h9:=ar6 ((a.drop 0).take m) (fun q hq=>hs q (List.mem_of_mem_drop (List.mem_of_mem_take hq))) (by simp; omega); have h8:=h9; rw [<- axn] at h9; exact h9) ?_
    refine gE1 ?_
    rw [h3]
    simp [nA,map_take]
theorem aip (d:Nat) (hd:Nat.blt d 1000 = true) (a:List Rat) (n:Nat) (hl:a.length <= n) (hn:n <= 1099511627776) :
  Con prog 206 [nA a,i64 n] [] (.ms d 3 0 n) [(d,some (.row 3 ((aax a n).map qA)))]:=by
 refine gF func206 (fun k z h=>by cases h) ?_
 refine gs (agv (.tmp rfl) T65 rfl T70 rfl rfl (by omega) (by dsimp only; omega) rfl) ?_
 refine gs (bnh (.tmp rfl) rfl (by simp) (.tmp rfl) T65 rfl T70 rfl rfl (by simp; omega) rfl) ?_ (3,0)
 refine gW (Wk.of (sl:=[(5,some (.ms 7 3 0 n))]) (hp:=[(7,some (.row 3 ((aax a n).map qA)))]) (.cons rfl (Sub.of (by simp)) .nil) (.cons rfl (a07 a n hl) .nil)) ?_
 refine gR ?_
 exact Fin.own1 rfl hd rfl
theorem aoc (a:List Rat) (n:Nat) (hl:a.length <= n) (hn:n <= 1099511627776):FnC prog 206 [nA a, i64 n] (nA (aax a n)):=by
 have h:=Con.freeze (by rw [length_map,abg hl]; omega) (aip 0 rfl a n hl hn)
 rw [drop_zero,take_of_length_le (by rw [length_map,abg hl]; exact le_refl _)] at h
 exact h
theorem aem (a b:List Rat) (ha:∀ q ∈ a, Qs q) (hb:∀ q ∈ b, Qs q) (la:a.length <= 1099511627776) (lb:b.length <= 1099511627776):FnC prog 122 [nA a, nA b] (nA (acz a b)):=by
 obtain ⟨n,hn⟩:∃ n,n = max a.length b.length:=⟨_,rfl⟩
 have hwa:=abg (show a.length <= n by omega)
 have hwb:=abg (show b.length <= n by omega)
 have hp:=abm (a:=a) (b:=b)
 rw [<- hn] at hp
 have qa:∀ q ∈ aax a n,Qs q:=fun q hq=>by rcases List.mem_append.1 hq with h | h; exact ha q h; (rw [(List.mem_replicate.1 h).2]; exact Qs.zero)
 have qb:∀ q ∈ aax b n,Qs q:=fun q hq=>by rcases List.mem_append.1 hq with h | h; exact hb q h; (rw [(List.mem_replicate.1 h).2]; exact Qs.zero)
 refine gF0 func122 ?_
 refine gl ?_
 refine gl ?_
 refine gs (a27 (.tmp rfl) (.tmp rfl) rfl) ?_ (2,0)
 refine gW (Wk.of (sl:=[(0,some (nA a)),(1,some (nA b)),(5,some (i64 n))]) (hp:=[]) (.cons rfl (.refl _) (.cons rfl (.refl _) (.cons rfl (Sub.int (by omega)) .nil))) .nil) ?_
 refine go ?_
 refine gt (aad (aip 900 rfl a n (by omega) (by omega)) (.cons (.tmp rfl) (.cons (.tmp rfl) .nil)) (by first | exact hH0 | exact hH1 rfl | exact hH2 rfl rfl) rfl rfl) ?_
 refine gc (aoc b n (by omega) (by omega)) ?_
 refine gL1 [1,19] [] (fun (i:Nat)=>[(0,some (.ms 900 3 0 n)),(20,some (i64 i))]) (fun i=>[(900,some (.row 3 (((acz a b).take i ++ (aax a n).drop i).map qA)))]) (fun i=>i <= n) (fun i=>n - i) 0 (zero_le _) ?_
 rintro i hi K1 hK1
 refine gC (fun ht21=>?_) (fun ht21=>?_) (st2:=(8,0))
 ·have hin : i < n := by simpa [aaa] using ht21
  have hmx:=azv (p:=acz a b) (w:=aax a n) (i:=i) (by omega) (by omega)
  have hqa:=(qa _ (aly (i:=i) (by omega))).ok
  have hqb:=(qb _ (aly (i:=i) (by omega))).ok
  refine gs (aap (n:=i) (.tmp rfl) (.tmp rfl) T65 rfl T70 rfl (by omega) (by omega) rfl) ?_
  refine gs (aau (.tmp rfl) rfl (aae hmx) T70 rfl rfl rfl) ?_
  refine gi (aae (getD_some (i:=i) (l:=aax b n) (by omega))) ?_
  refine gc (afm (rt ((aax a n).getD i 0)) (rt ((aax b n).getD i 0)) hqa hqb) ?_
  refine gs (aap (n:=i) (.tmp rfl) (.tmp rfl) T65 rfl T70 rfl (by omega) (by omega) rfl) ?_
  refine gs (abh (.tmp rfl) rfl (aae hmx) rfl (.tmp rfl) rfl rfl T70 rfl rfl) ?_
  refine gD ?_ (7,0)
  refine gW (Wk.of (sl:=[(0,some (.ms 900 3 0 n)),(1,some (nA (aax b n))),(19,some (i64 n)),(20,some (i64 i))]) (hp:=[(900,some (.row 3 (((acz a b).take (i + 1) ++ (aax a n).drop (i + 1)).map qA)))]) ab0 (.cons rfl (BlkSub.of (by rw [atw (by omega) (by omega) (by rw [a19,<- hn,agd,agd])])) .nil)) ?_
  refine ga aat ?_
  exact gK1 hK1 (i + 1) hin
 ·have hin : i = n := by have : n <= i := (by simpa [aaa] using ht21); omega
  refine gW ((Wk.freeze (k:=900) rfl).trans <| Wk.of (sl:=[(0,some (nA (acz a b)))]) (hp:=[]) (.cons rfl (Sub.of (by rw [ab8 (by simp; omega),hin,List.drop_of_length_le (by omega),take_of_length_le (by omega),List.append_nil]; rfl)) .nil) .nil) ?_
  refine gE1 ?_
  rfl
theorem aga (a:List Rat) (ha:∀ q ∈ a, Qs q) (la:a.length <= 1099511627776):FnC prog 123 [nA a] (nA (ab7 a)):=by
 obtain ⟨n,hn⟩:∃ n,n = a.length:=⟨_,rfl⟩
 refine gF0 func123 ?_
 refine gl ?_
 refine gs (agv (.tmp rfl) T65 rfl T70 rfl rfl (by omega) (by dsimp only; omega) rfl) ?_ (2,0)
 refine gW (Wk.of (sl:=[(0,some (nA a)),(3,some (.ms 7 3 0 n))]) (hp:=[(7,some (.row 3 ((aax [] n).map qA)))]) (.k (.cons rfl (Sub.of (by simp [hn])) .nil)) (.cons rfl (BlkSub.of_ (a07 [] n (by simp)) (by rw [hn]; rfl)) .nil)) ?_
 refine gl ?_
 refine gL1 [0] [] (fun (i:Nat)=>[(3,some (.ms 7 3 0 n)),(9,some (i64 n)),(10,some (i64 i))]) (fun i=>[(7,some (.row 3 (((ab7 a).take i ++ (aax [] n).drop i).map qA)))]) (fun i=>i <= n) (fun i=>n - i) 0 (zero_le _) ?_ (h1:=(.k (.cons rfl (Sub.int (by omega)) (.k .nil))))
 rintro i hi K1 hK1
 refine gC (fun ht11=>?_) (fun ht11=>?_) (st2:=(7,0))
 ·have hin : i < n := by simpa [aaa] using ht11
  have hm1:=acx (a:=a)
  have hm2:=abg (a:=[]) (n:=n) (by simp)
  have hmx:=azv (p:=ab7 a) (w:=aax [] n) (i:=i) (by omega) (by omega)
  have hqa:=(ha _ (aly (i:=i) (by omega))).ok
  refine gi (aae (getD_some (i:=i) (by omega))) ?_
  refine gc (ag8 (rt (a.getD i 0)) hqa) ?_
  refine gs (aap (n:=i) (.tmp rfl) (.tmp rfl) T65 rfl T70 rfl (by omega) (by omega) rfl) ?_
  refine gs (abh (.tmp rfl) rfl (aae hmx) rfl (.tmp rfl) rfl rfl T70 rfl rfl) ?_ (6,0)
  refine gW (Wk.of (sl:=[(0,some (nA a)),(3,some (.ms 7 3 0 n)),(9,some (i64 n)),(10,some (i64 i))]) (hp:=[(7,some (.row 3 (((ab7 a).take (i + 1) ++ (aax [] n).drop (i + 1)).map qA)))]) ab0 (.cons rfl (BlkSub.of (by rw [atw (by omega) (by omega) (by rw [a9a,agd])])) .nil)) ?_
  refine ga aat ?_
  exact gK1 hK1 (i + 1) hin
 ·have hin : i = n := by have : n <= i := (by simpa [aaa] using ht11); omega
  have hm1:=acx (a:=a)
  have hm2:=abg (a:=[]) (n:=n) (by simp)
  refine gW ((Wk.freeze (k:=7) rfl).trans <| Wk.of (sl:=[(3,some (nA (ab7 a)))]) (hp:=[]) (.cons rfl (Sub.of (by rw [ab8 (by simp; omega),hin,List.drop_of_length_le (by omega),take_of_length_le (by omega),List.append_nil]; rfl)) .nil) .nil) ?_
  refine gE1 ?_
  rfl
theorem an4 (a b:List Rat) (n:Nat) (la:a.length <= n) (lb:b.length <= n) (hn:n <= 274877906944):FnC prog 205 [nA a, nA b, i64 n] (nA (ai3 a b n)):=by
 refine gF0 func205 ?_
 refine gt (aad (aip 900 rfl a n la (by omega)) (.cons (.tmp rfl) (.cons (.tmp rfl) .nil)) (by first | exact hH0 | exact hH1 rfl | exact hH2 rfl rfl) rfl rfl) ?_
 refine gc (aoc b n lb (by omega)) ?_
 refine gs (agl (.tmp rfl) rfl (by simp [abg la]) (.tmp rfl) T65 rfl T70 rfl rfl (by simp [abg lb]; omega) rfl rfl) ?_
 refine gE1 ?_
 rw [<- map_append]; rfl
end Go.Lw
