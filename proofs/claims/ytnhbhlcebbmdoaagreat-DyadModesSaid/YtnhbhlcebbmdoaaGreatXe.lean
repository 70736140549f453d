/- DyadModes: for any linkage, any group and turn, any assembly the law returns true and leaves its arguments as they were. No other condition. Part 5 of 7: what the later parts need -/
import Derived.Test.YtnhbhlcebbmdoaaGreatXd
set_option linter.unusedVariables false
open List (mem_of_getElem? mem_append map_cons mem_cons length_cons length_append length_nil getD_eq_getElem?_getD all_eq_true getElem?_map map_append length_take take_of_length_le length_map drop_zero take_length not_mem_nil mem_of_mem_take map_take all_append length_replicate map_replicate map_set length_set)
open Nat (eq_of_beq_eq_true le_refl lt_or_ge le_trans zero_le)
open Option (map_eq_some_iff)
open Bool (and_eq_true)
open Int (toNat_natCast natAbs_natCast)
open Go.Proofs.Tryz
namespace Go.Lw
open Go.Proofs
theorem apk (m:List Nat) (hm:Ws m) (hl:m.length <= lim):FnC prog 206 [ws m] (bl (!decide (m = []) && (⟨false, m⟩:Wh).valid)):=by
 refine gF0 func206 ?_;refine gl ?_;refine glG ?_;refine gaG (fun h=>(ad2 (by simp [aaa] at h; omega) (by unfold lim at hl; unfold ac0; exact le_trans hl (by omega)))) ?_;refine giG (fun h=>(ahp (i:=m.length - 1) (by simp [aaa] at h; omega))) ?_;refine gE1 ?_
 by_cases h:m = []
 ·subst h; rfl
 ·have h1:0 < m.length:=List.length_pos_iff.2 h;have h2:aaa .gtr (m.length:Int) 0 = true:=by simp [aaa,h1]
  simp only [bl,h,decide_false,Bool.not_false,Bool.true_and,Wh.valid,List.getLast?_eq_getElem?,ad4 (show m.length - 1 < m.length by omega),aaa];congr 2;generalize aac m _ = x;rw [Bool.eq_iff_iff]; simp [h1]
theorem aqp:FnC prog 51 [] (zA 1):=by
 refine gF0 func51 ?_;refine gc (azy 1 (by omega)) ?_;refine gE1 ?_
 first | rfl | (simp; done)
theorem aoq (r:Rt) (h:r.ok):FnC prog 103 [r.av] (bl r.valid):=by
 have hr:=h;have hn:=h.n0;have hd:=h.d0;have hl1:r.num.length <= 137438953472:=h.2.2.1;have hl2:r.den.length <= 137438953472:=h.2.2.2;refine gF0 func103 ?_;refine gl ?_;refine glG ?_;refine gC (fun ht12=>?_) (fun ht12=>?_)
 ·have h0 : r.num = [] /\ r.den = [] := by simpa [aaa] using ht12
  refine gE1 ?_;unfold Rt.valid; rw [if_pos h0]; rfl
 ·have h0:¬ (r.num = [] /\ r.den = []):=by
   have:=ht12;simp [aaa] at this;exact fun h=>this h.1 h.2
  refine gc (apk r.num hr.1 hr.2.2.1) ?_;refine gcG (fun _=>(apk r.den hr.2.1 hr.2.2.2)) ?_;refine gcG (fun _=>(avb r.n0 r.d0 hn hd (by show r.num.length + r.den.length < _; unfold big; omega))) ?_;refine gcG (fun _=>aqp) ?_;refine gcG (fun _=>(bn5 (Rt.gcd_zs hr) zs1)) ?_;refine gE1 ?_;exact congrArg bl (a6h h0).symm
theorem afb (r:Rt) (h:r.ok):FnC prog 208 [r.av] (.tup [zA r.q.num, zA r.q.den]):=by
 have hl1:r.num.length <= 137438953472:=h.2.2.1;have hl2:r.den.length <= 137438953472:=h.2.2.2;refine gF0 func208 ?_;refine gc (aoq r h) ?_;refine glG ?_;refine gC (fun ht12=>?_) (fun ht12=>?_)
 ·have h0:¬ (r.valid = true /\ r.num ≠ []):=by
   have:=ht12;intro h';simp [aaa,h'.1,h'.2] at this
  refine gc aqp ?_;refine gR ?_;exact adc (by rw [Rt.zero h0]; exact Sub.tup (.cons beh (.cons (.refl _) .nil)))
 ·have h0:r.valid = true /\ r.num ≠ []:=by
   have:=ht12;cases hv:r.valid
   ·rw [hv] at this; cases this
   ·rw [hv] at this; exact ⟨rfl,by simpa [aaa] using this⟩
  obtain ⟨e1,e2,e3,e4,e5,e6⟩:=Rt.parts h h0.1 h0.2;refine gD ?_;refine gE2 ?_;rw [e1,e2]; exact a1y e3 e4 e5
theorem ajw {n d:Int} (hn:Zs n) (hd:Zs d) (h0:d ≠ 0):FnC prog 49 [zA n, zA d] (qA (Rat.divInt n d)):=by
 refine gF0 func49 ?_;refine gc (azj hn) ?_;refine gC (fun ht14=>?_) (fun ht14=>?_)
 ·have e0 : n = 0 := Int.sign_eq_zero_iff_zero.1 (by simpa [aaa] using ht14);refine gR ?_;exact aef (by rw [e0,Rat.zero_divInt]; exact aje)
 ·have e0 : n ≠ 0 := fun h => by rw [h] at ht14; cases ht14
  refine gc (azj hd) ?_;refine gJ2 [2,3,4] [4] (fun (n1 d1:Int)=>[]) (fun n1 d1=>[(2,some (.box (zA n1).cells)),(3,some (.box (zA d1).cells))]) (fun n1 d1=>0 < d1 /\ n1 ≠ 0 /\ Zs n1 /\ Zs d1 /\ Rat.divInt n1 d1 = Rat.divInt n d) ?_ ?_
  ·intro K1 hK1;refine gC (fun ht18=>?_) (fun ht18=>?_)
   ·have e1 : d < 0 := Int.sign_eq_neg_one_iff_neg.1 (by have := Int.sign_trichotomy d; have h9 : d.sign < 0 := (by simpa [aaa] using ht18); omega);refine gc (a57 hn) ?_;refine gc (a57 hd) ?_;refine gD ?_;exact jK2 hK1 (-n) (-d) ⟨by omega,by omega,hn.neg,hd.neg,aqh n d⟩
   ·have e1:0 < d:=by
     have h9:0 <= d.sign:=by simpa [aaa] using ht18
     have:=Int.sign_nonneg_iff.1 h9;omega
    exact jK2 hK1 n d ⟨e1,e0,hn,hd,rfl⟩
  ·rintro n1 d1 ⟨f1, f2, f3, f4, f5⟩;have g2:Zs (Int.gcd n1 d1:Int):=f3.of_le (by rw [natAbs_natCast]; exact Nat.le_of_dvd (by omega) (Int.gcd_dvd_natAbs_left _ _));have g3:(Int.gcd n1 d1:Int) ≠ 0:=by have:=Int.gcd_pos_of_ne_zero_left d1 f2; omega
   refine gc (bkv f3 f4) ?_;refine gc (bep f3 g2 g3) ?_;refine gc (bep f4 g2 g3) ?_;refine gE1 ?_;rw [<- f5,<- bde f1 f2]; rfl
theorem a1n (n:Int) (h:-9223372036854775808 <= n /\ n <= 9223372036854775807):FnC prog 15 [i64 n] (qA n):=by
 have hz:Zs n:=⟨2,by omega,by unfold Lz; simp only [Nat.reducePow]; omega⟩
 refine gF0 func15 ?_;refine gc (azy n h) ?_;refine gc aqp ?_;refine gc (ajw hz zs1 (by omega)) ?_;refine gE1 ?_;exact congrArg qA (Rat.num_divInt_den (n:Rat))
theorem a4r (a:Rt) (ha:a.ok):FnC prog 212 [a.av] (qA (-a.q)):=by
 have za:=ha.qs;refine gF0 func212 ?_;refine gc (afb a ha) ?_;refine gc (a57 za.num) ?_;refine gc (ajw za.num.neg za.den (by have:=a.q.den_nz; omega)) ?_;refine gD ?_;refine gE1 ?_;rw [a8u]; rfl
theorem art (a:Rt) (ha:a.ok):FnC prog 104 [a.av] (i64 (af6 a.q)):=by
 refine gF0 func104 ?_;refine gc (afb a ha) ?_;refine gc (azj ha.qs.num) ?_;refine gE1 ?_;rw [az3]
theorem av0 (a b:Rt) (ha:a.ok) (hb:b.ok):FnC prog 105 [a.av, b.av] (qA (a.q + b.q)):=by
 have za:=ha.qs;have zb:=hb.qs;have m1:=za.mul zb;have m2:=zb.mul za;refine gF0 func105 ?_;refine gc (afb a ha) ?_;refine gc (afb b hb) ?_;refine gc (au4 za.num zb.den) ?_;refine gc (au4 zb.num za.den) ?_;refine gc (bnb m1.1 m2.1) ?_;refine gc (au4 za.den zb.den) ?_;refine gc (ajw (za.cross zb) m1.2.2.1 (Int.mul_ne_zero (by have:=a.q.den_nz; omega) (by have:=b.q.den_nz; omega))) ?_;refine gD ?_;refine gE1 ?_;rw [aya]; rfl
theorem a9c (a b:Rt) (ha:a.ok) (hb:b.ok):FnC prog 106 [a.av, b.av] (qA (a.q * b.q)):=by
 have za:=ha.qs;have zb:=hb.qs;have m1:=za.mul zb;refine gF0 func106 ?_;refine gc (afb a ha) ?_;refine gc (afb b hb) ?_;refine gc (au4 za.num zb.num) ?_;refine gc (au4 za.den zb.den) ?_;refine gc (ajw m1.2.1 m1.2.2.1 (Int.mul_ne_zero (by have:=a.q.den_nz; omega) (by have:=b.q.den_nz; omega))) ?_;refine gD ?_;refine gE1 ?_;rw [ayv]; rfl
end Go.Lw
namespace Go.Lw
open Go.Proofs
theorem aez {α:Type} (f:α -> AV) (l:List α) (hl:l.length <= 281474976710656):FnC prog 242 [.lst 3 (l.map f)] (i64 (lvl l.length)):=by
 refine gF0 func242 ?_;refine gL1 [0] [] (fun (k:Nat)=>[(3,some (i64 k))]) (fun _=>[]) (fun k=>k <= 48 /\ ∀ j,j < k -> 2 ^ j < l.length) (fun k=>48 - k) 0 ⟨by omega,fun j h=>by omega⟩ ?_;rintro k ⟨hk,hj⟩ K1 hK1;refine gs (afx (.const _) (.tmp rfl) (by omega) (ah8 (by omega)) rfl) ?_;refine gl ?_;refine gC (fun ht8=>?_) (fun ht8=>?_)
 ·have h1 : 2 ^ k < l.length := by have := ht8; simp only [aaa, decide_eq_true_eq] at this; omega
  have h2:k < 48:=by
   rcases lt_or_ge k 48 with h | h
   ·exact h
   ·have:2 ^ 48 <= 2 ^ k:=aa1 h;have:(2:Nat) ^ 48 = 281474976710656:=by decide
    omega
  refine ga (aa4 (by omega)) ?_;exact gK1 hK1 (k + 1) ⟨by omega,fun j h=>by rcases lt_or_ge j k with h3 | h3; exact hj j h3; (have:j = k:=by omega); subst this; exact h1⟩
 ·have h1 : l.length <= 2 ^ k := by have := ht8; simp only [aaa, decide_eq_false_iff_not] at this; omega
  have h2:=a9o hj h1;refine gs (afx (.const _) (.tmp rfl) (by omega) (ah8 (by omega)) rfl) ?_;refine gl ?_;refine gC (fun ht15=>?_) (fun ht15=>?_)
  ·have h3 : 2 ^ k ≠ l.length := by have := ht15; simp only [aaa, bne_iff_ne, ne_eq] at this; omega
   refine gE1 ?_;unfold lvl; rw [h2,if_neg h3]; rfl
  ·have h3 : 2 ^ k = l.length := by have := ht15; simp only [aaa, bne_eq_false_iff_eq] at this; omega
   refine gE1 ?_;unfold lvl; rw [h2,if_pos h3]
theorem akc (ts:List (List Rt)) (a:List Rt) (ha:∀ r ∈ a, r.ok) (hl:a.length <= 281474976710656) (ht:ts.length <= 281474976710656):FnC prog 157 [aj2 ts, nR a] (aik (ahm ts.length a)):=by
 refine gF0 func157 ?_;refine gl ?_;refine gJ0 [1,4] [] [] [] (¬ (a ≠ [] /\ (lvl a.length < 0 \/ (ts.length:Int) < lvl a.length))) ?_ ?_
 ·intro K1 hK1;refine gC (fun ht10=>?_) (fun ht10=>?_)
  ·have h0 : a ≠ [] := fun h => by rw [h] at ht10; simp [aaa] at ht10
   refine gc (aez Rt.av a hl) ?_;refine glG ?_;refine gC (fun ht21=>?_) (fun ht21=>?_)
   ·have h1:lvl a.length < 0 \/ (ts.length:Int) < lvl a.length:=by
     have h9:=ht21
     by_cases h:lvl a.length < 0
     ·exact .inl h
     ·simp only [aaa,decide_eq_false h,cond_false,decide_eq_true_eq] at h9; exact .inr h9
    refine gE1 ?_;unfold ahm; rw [if_pos ⟨h0,h1⟩]; rfl
   ·have h1:¬ (lvl a.length < 0 \/ (ts.length:Int) < lvl a.length):=by
     have h9:=ht21
     by_cases h:lvl a.length < 0
     ·simp only [aaa,decide_eq_true h,cond_true] at h9; cases h9
     ·simp only [aaa, decide_eq_false h, cond_false, decide_eq_false_iff_not] at h9;exact fun h'=>h'.elim h h9
    exact jK0 hK1 (fun h=>h1 h.2)
  ·have h0:a = []:=by
    cases a with
    | nil=>rfl
    | cons c l=>simp [aaa] at ht10
   exact jK0 hK1 (fun h=>h.1 h0)
 ·rintro hn;refine gl ?_;refine gL1 [23,24] [] (fun (i:Nat)=>[(25,some (i64 i))]) (fun _=>[]) (fun i=>i <= a.length /\ (a.take i).all Rt.valid = true) (fun i=>a.length - i) 0 ⟨zero_le _,by simp⟩ ?_;rintro i ⟨hi,hv⟩ K2 hK2;refine gC (fun ht26=>?_) (fun ht26=>?_)
  ·have hin : i < a.length := by simpa [aaa] using ht26
   obtain ⟨r,hr⟩:=acj hin;have hrok:=ha r (mem_of_getElem? hr);refine gi (aai hr) ?_;refine gc (aco r hrok) ?_;refine gC (fun ht31=>?_) (fun ht31=>?_)
   ·have hrv : r.valid = false := by simpa using ht31
    refine gE1 ?_;unfold ahm;rw [if_neg hn,if_neg]
    ·rfl
    ·rw [all_eq_true];intro h;rw [h r (mem_of_getElem? hr)] at hrv; cases hrv
   ·have hrv : r.valid = true := by simpa using ht31
    refine ga aa0 ?_;exact gK1 hK2 (i + 1) ⟨by omega,by rw [aap hr,all_append,hv]; simp [hrv]⟩
  ·have hin : i = a.length := by have : a.length <= i := (by simpa [aaa] using ht26); omega
   subst hin;rw [take_length] at hv;refine gE1 ?_;unfold ahm; rw [if_neg hn,if_pos hv]; rfl
theorem ann (a:List Rat) (ha:∀ q ∈ a, Qs q) (hl:a.length <= 281474976710656):FnC prog 292 [nA a] (bl (abr a)):=by
 refine gF0 func292 ?_;refine gl ?_;refine gL1 [5,6] [] (fun (i:Nat)=>[(7,some (i64 i))]) (fun _=>[]) (fun i=>i <= a.length /\ abr (a.take i) = true) (fun i=>a.length - i) 0 ⟨zero_le _,by simp [abr]⟩ ?_;rintro i ⟨hi,hv⟩ K1 hK1;refine gC (fun ht8=>?_) (fun ht8=>?_)
 ·have hin : i < a.length := by simpa [aaa] using ht8
  obtain ⟨q,hq⟩:=acj hin;have hqs:=ha q (mem_of_getElem? hq);refine gi (aai hq) ?_;refine gc (aer (rt q) hqs.ok) ?_;refine gC (fun ht13=>?_) (fun ht13=>?_)
  ·have h0:q ≠ 0:=by
    intro h;have h9:=ht13;rw [ahn,h] at h9;cases h9
   refine gE1 ?_
   have:abr a = false:=by
    rw [Bool.eq_false_iff];intro h;exact h0 (by simpa using List.all_eq_true.1 h q (mem_of_getElem? hq))
   rw [this]; rfl
  ·have h0:q = 0:=by
    have h9:af6 q = 0:=by have:=ht13; rw [ahn] at this; simpa [aaa] using this
    exact agn h9
   refine ga aa0 ?_;exact gK1 hK1 (i + 1) ⟨by omega,by rw [aap hq]; simp only [abr,all_append,and_eq_true]; exact ⟨hv,by simp [h0]⟩⟩
 ·have hin : i = a.length := by have : a.length <= i := (by simpa [aaa] using ht8); omega
  subst hin;rw [take_length] at hv;refine gE1 ?_;rw [hv]; rfl
theorem alq (a:List Rat) (hl:a.length <= 281474976710656):FnC prog 261 [nA a] (bl (abr a)):=by
 refine gF0 func261 ?_;refine gl ?_;refine gL1 [5,6] [] (fun (i:Nat)=>[(7,some (i64 i))]) (fun _=>[]) (fun i=>i <= a.length /\ abr (a.take i) = true) (fun i=>a.length - i) 0 ⟨zero_le _,by simp [abr]⟩ ?_;rintro i ⟨hi,hv⟩ K1 hK1;refine gC (fun ht8=>?_) (fun ht8=>?_)
 ·have hin : i < a.length := by simpa [aaa] using ht8
  obtain ⟨q,hq⟩:=acj hin;refine gi (aai hq) ?_;refine glG ?_;refine glG ?_;refine gC (fun ht24=>?_) (fun ht24=>?_)
  ·have h0:q ≠ 0:=az2 ht24;refine gE1 ?_
   have:abr a = false:=by
    rw [Bool.eq_false_iff];intro h;exact h0 (by simpa using List.all_eq_true.1 h q (mem_of_getElem? hq))
   rw [this]; rfl
  ·have h0:q = 0:=auq ht24;refine ga aa0 ?_;exact gK1 hK1 (i + 1) ⟨by omega,by rw [aap hq]; simp only [abr,all_append,and_eq_true]; exact ⟨hv,by simp [h0]⟩⟩
 ·have hin : i = a.length := by have : a.length <= i := (by simpa [aaa] using ht8); omega
  subst hin;rw [take_length] at hv;refine gE1 ?_;rw [hv]; rfl
theorem ag3 (a:List Rat) (ha:∀ q ∈ a, Qs q) (hl:a.length <= 1099511627776):FnC prog 194 [nA a] (nA a):=by
 refine gF0 func194 ?_;refine gl ?_;refine gW (Wk.virt 900 3 rfl) ?_;refine gL1 [6,7] [] (fun (i:Nat)=>[(3,some (.ms 900 3 0 i)),(8,some (i64 i))]) (fun i=>[(900,some (.row 3 ((a.take i).map qA)))]) (fun i=>i <= a.length) (fun i=>a.length - i) 0 (zero_le _) ?_;rintro i hi K1 hK1;refine gC (fun ht9=>?_) (fun ht9=>?_) (st2:=(7,0))
 ·have hin : i < a.length := by simpa [aaa] using ht9
  obtain ⟨q,hq⟩:=acj hin;have hqs:=(ha q (mem_of_getElem? hq)).ok;have hl1:(rt q).num.length <= 137438953472:=hqs.2.2.1;have hl2:(rt q).den.length <= 137438953472:=hqs.2.2.2;refine gi (aai hq) ?_;refine gs (acp T27 rfl T218 rfl rfl rfl) ?_;refine gs (age (.tmp rfl) rfl rfl (.tmp rfl) T27 rfl T218 rfl rfl (by simp only [length_map]; omega) rfl rfl) ?_;refine gs (acp T27 rfl T218 rfl rfl rfl) ?_;refine gs (age (.tmp rfl) rfl rfl (.tmp rfl) T27 rfl T218 rfl rfl (by simp only [length_map]; omega) rfl rfl) ?_;refine gs (aa5 (.tmp rfl) rfl (by simp; omega) (.tmp rfl) T46 rfl T29 rfl rfl (by simp; omega) rfl rfl) ?_;refine gD ?_ (6,0);refine gW (Wk.of (sl:=[(3,some (.ms 25 3 0 (i + 1))),(6,some (nA a)),(7,some (i64 a.length)),(8,some (i64 i))]) (hp:=[(25,some (.row 3 ((a.take (i + 1)).map qA)))]) abj (.cons rfl (BlkSub.of (by rw [aap hq,map_append]; rfl)) .nil)) ?_ (6,0);refine gW (Wk.rekey (k:=25) (d:=900) rfl rfl) ?_;refine ga aa0 ?_;exact gK1 hK1 (i + 1) hin
 ·have hin : i = a.length := by have : a.length <= i := (by simpa [aaa] using ht9); omega
  subst hin;refine gW ((Wk.freeze (k:=900) rfl).trans <| Wk.of (sl:=[(3,some (nA a))]) (hp:=[]) (.cons rfl (Sub.of (by rw [abu (by simp),take_length]; rfl)) .nil) .nil) ?_;refine gE1 ?_;rfl
end Go.Lw
namespace Go.Lw
open Go.Proofs
theorem ab4 {n:Nat} (a:List Rat) (hn:n <= 5) (ha:Nl n a) (hs:∀ q ∈ a, Qs q):FnC prog 164 [nA a] (nA (sh n (dec n a))):=by
 have hl:=ha.len5 hn;rw [<- ai0 ha hn];refine gF0 func164 ?_;refine gc (aez qA a (by omega)) ?_;refine gl ?_;refine gC (fun ht17=>?_) (fun ht17=>?_) (st1:=(3,0))
 ·exact absurd ht17 (by rcases ha with rfl | ⟨j,hj,h⟩; (simp [aaa]); (rw [h,am8]; simp [aaa]; omega))
 ·refine gl ?_;refine gL1 [0] [] (fun (m:Nat)=>[(4,some (i64 m))]) (fun _=>[]) (fun m=>bai a m) (fun m=>m) a.length (a8w (ha.mono hn)) ?_;rintro m hm K1 hK1;refine gs (abx rfl rfl rfl (fun h=>ad0 (.opt rfl (o1 h)) (.const _) (by omega) (acd (by have:=hm.le; omega)) rfl)) ?_;refine gs (abx rfl rfl rfl (fun h=>aao (.opt rfl (o1 h)) (.some _ (.opt rfl (o1 h)) (by omega)) (.some _ (.opt rfl (o1 h)) (by omega)) T46 rfl T29 rfl (by omega) (by have:=hm.le; simp; omega) rfl)) ?_;refine gcG (fun _=>(by have h9:=alq ((a.drop (m / 2)).take (m - m / 2)) (by simp; omega); rw [<- aw2] at h9; exact h9)) ?_;refine gC (fun ht31=>?_) (fun ht31=>?_)
  ·have h1:1 < m /\ abr ((a.drop (m / 2)).take (m - m / 2)) = true:=by
    have h9:=ht31
    by_cases h:(m:Int) > 1
    ·simp only [aaa,decide_eq_true h,cond_true] at h9; exact ⟨by omega,h9⟩
    ·simp only [aaa,decide_eq_false h,cond_false] at h9; cases h9
   refine gs (ad0 (.tmp rfl) (.const _) (by omega) (acd (by have:=hm.le; omega)) rfl) ?_;exact gK1 hK1 (m / 2) (a7q hm h1.1 h1.2)
  ·have h1:1 < m -> abr ((a.drop (m / 2)).take (m - m / 2)) = false:=by
    intro h;have h9:=ht31;simp only [aaa,decide_eq_true (show (m:Int) > 1 by omega),cond_true] at h9;exact h9
   refine gs (abx rfl rfl rfl (fun h=>aao (.opt rfl (o1 h)) (.none _) (.some _ (.const _) (by omega)) T46 rfl T29 rfl (by omega) (by have h8:(m:Int) = 1:=(by simpa [aaa] using h); have:=hm.le; simp only [length_map]; omega) rfl)) ?_;refine gcG (fun _=>(by have h9:=alq ((a.drop 0).take 1) (by simp; omega); rw [<- aw2] at h9; exact h9)) ?_;refine gC (fun ht40=>?_) (fun ht40=>?_)
   ·have h2:m = 1 /\ abr (a.take 1) = true:=by
     have h9:=ht40
     by_cases h:m = 1
     ·rw [h] at h9; exact ⟨h,h9⟩
     ·rw [show aaa .eql (m:Int) 1 = false by simp [aaa]; omega] at h9; cases h9
    obtain ⟨rfl,h3⟩:=h2;refine gR ?_;exact aef (by rw [a6t hm h3]; exact Sub.nil _ _ _)
   ·have h2:m = 1 -> abr (a.take 1) = false:=by
     intro h;have h9:=ht40;rw [h] at h9; exact h9
    have h3:=a7k hm h1 h2;refine gs (aao (.tmp rfl) (.none _) (.some _ (.tmp rfl) (by omega)) T46 rfl T29 rfl (by omega) (by have:=hm.le; simp; omega) rfl) ?_;refine gc (by have h9:=ag3 ((a.drop 0).take m) (fun q hq=>hs q (List.mem_of_mem_drop (mem_of_mem_take hq))) (by simp; omega); have h8:=h9; rw [<- aw2] at h9; exact h9) ?_;refine gE1 ?_;rw [h3];simp [nA,map_take]
theorem ahq (d:Nat) (hd:Nat.blt d 1000 = true) (a:List Rat) (n:Nat) (hl:a.length <= n) (hn:n <= 1099511627776) :
  Con prog 275 [nA a,i64 n] [] (.ms d 3 0 n) [(d,some (.row 3 ((aaw a n).map qA)))]:=by
 refine gF func275 (fun k z h=>by cases h) ?_;refine gs (afq (.tmp rfl) T46 rfl T29 rfl rfl (by omega) (by dsimp only; omega) rfl) ?_;refine gs (bmc (.tmp rfl) rfl (by simp) (.tmp rfl) T46 rfl T29 rfl rfl (by simp; omega) rfl) ?_ (3,0);refine gW (Wk.of (sl:=[(5,some (.ms 7 3 0 n))]) (hp:=[(7,some (.row 3 ((aaw a n).map qA)))]) (.cons rfl (Sub.of (by simp)) .nil) (.cons rfl (a0s a n hl) .nil)) ?_;refine gR ?_;exact Fin.own1 rfl hd rfl
theorem ai5 (a:List Rat) (n:Nat) (hl:a.length <= n) (hn:n <= 1099511627776):FnC prog 275 [nA a, i64 n] (nA (aaw a n)):=by
 have h:=Con.freeze (by rw [length_map,abf hl]; omega) (ahq 0 rfl a n hl hn);rw [drop_zero,take_of_length_le (by rw [length_map,abf hl]; exact le_refl _)] at h;exact h
theorem aek (a b:List Rat) (ha:∀ q ∈ a, Qs q) (hb:∀ q ∈ b, Qs q) (la:a.length <= 1099511627776) (lb:b.length <= 1099511627776):FnC prog 233 [nA a, nA b] (nA (ac4 a b)):=by
 obtain ⟨n,hn⟩:∃ n,n = max a.length b.length:=⟨_,rfl⟩
 have hwa:=abf (show a.length <= n by omega);have hwb:=abf (show b.length <= n by omega);have hp:=abl (a:=a) (b:=b);rw [<- hn] at hp;have qa:∀ q ∈ aaw a n,Qs q:=fun q hq=>by rcases List.mem_append.1 hq with h | h; exact ha q h; (rw [(List.mem_replicate.1 h).2]; exact Qs.zero)
 have qb:∀ q ∈ aaw b n,Qs q:=fun q hq=>by rcases List.mem_append.1 hq with h | h; exact hb q h; (rw [(List.mem_replicate.1 h).2]; exact Qs.zero)
 refine gF0 func233 ?_;refine gl ?_;refine gl ?_;refine gs (a31 (.tmp rfl) (.tmp rfl) rfl) ?_ (2,0);refine gW (Wk.of (sl:=[(0,some (nA a)),(1,some (nA b)),(5,some (i64 n))]) (hp:=[]) (.cons rfl (.refl _) (.cons rfl (.refl _) (.cons rfl (Sub.int (by omega)) .nil))) .nil) ?_;refine go ?_;refine gt (aad (ahq 900 rfl a n (by omega) (by omega)) (.cons (.tmp rfl) (.cons (.tmp rfl) .nil)) (by first | exact hH0 | exact hH1 rfl | exact hH2 rfl rfl) rfl rfl) ?_;refine gc (ai5 b n (by omega) (by omega)) ?_;refine gL1 [1,19] [] (fun (i:Nat)=>[(0,some (.ms 900 3 0 n)),(20,some (i64 i))]) (fun i=>[(900,some (.row 3 (((ac4 a b).take i ++ (aaw a n).drop i).map qA)))]) (fun i=>i <= n) (fun i=>n - i) 0 (zero_le _) ?_;rintro i hi K1 hK1;refine gC (fun ht21=>?_) (fun ht21=>?_) (st2:=(8,0))
 ·have hin : i < n := by simpa [aaa] using ht21
  have hmx:=axb (p:=ac4 a b) (w:=aaw a n) (i:=i) (by omega) (by omega);have hqa:=(qa _ (ald (i:=i) (by omega))).ok;have hqb:=(qb _ (ald (i:=i) (by omega))).ok;refine gs (aar (n:=i) (.tmp rfl) (.tmp rfl) T46 rfl T29 rfl (by omega) (by omega) rfl) ?_;refine gs (aae (.tmp rfl) rfl (aai hmx) T29 rfl rfl rfl) ?_;refine gi (aai (getD_some (i:=i) (l:=aaw b n) (by omega))) ?_;refine gc (adg (rt ((aaw a n).getD i 0)) (rt ((aaw b n).getD i 0)) hqa hqb) ?_;refine gs (aar (n:=i) (.tmp rfl) (.tmp rfl) T46 rfl T29 rfl (by omega) (by omega) rfl) ?_;refine gs (aa2 (.tmp rfl) rfl (aai hmx) rfl (.tmp rfl) rfl rfl T29 rfl rfl) ?_;refine gD ?_ (7,0);refine gW (Wk.of (sl:=[(0,some (.ms 900 3 0 n)),(1,some (nA (aaw b n))),(19,some (i64 n)),(20,some (i64 i))]) (hp:=[(900,some (.row 3 (((ac4 a b).take (i + 1) ++ (aaw a n).drop (i + 1)).map qA)))]) abj (.cons rfl (BlkSub.of (by rw [asq (by omega) (by omega) (by rw [a0w,<- hn,ahn,ahn])])) .nil)) ?_;refine ga aa0 ?_;exact gK1 hK1 (i + 1) hin
 ·have hin : i = n := by have : n <= i := (by simpa [aaa] using ht21); omega
  refine gW ((Wk.freeze (k:=900) rfl).trans <| Wk.of (sl:=[(0,some (nA (ac4 a b)))]) (hp:=[]) (.cons rfl (Sub.of (by rw [abu (by simp; omega),hin,List.drop_of_length_le (by omega),take_of_length_le (by omega),List.append_nil]; rfl)) .nil) .nil) ?_;refine gE1 ?_;rfl
theorem af1 (a:List Rat) (ha:∀ q ∈ a, Qs q) (la:a.length <= 1099511627776):FnC prog 165 [nA a] (nA (ab8 a)):=by
 obtain ⟨n,hn⟩:∃ n,n = a.length:=⟨_,rfl⟩
 refine gF0 func165 ?_;refine gl ?_;refine gs (afq (.tmp rfl) T46 rfl T29 rfl rfl (by omega) (by dsimp only; omega) rfl) ?_ (2,0);refine gW (Wk.of (sl:=[(0,some (nA a)),(3,some (.ms 7 3 0 n))]) (hp:=[(7,some (.row 3 ((aaw [] n).map qA)))]) (.k (.cons rfl (Sub.of (by simp [hn])) .nil)) (.cons rfl (BlkSub.of_ (a0s [] n (by simp)) (by rw [hn]; rfl)) .nil)) ?_;refine gl ?_;refine gL1 [0] [] (fun (i:Nat)=>[(3,some (.ms 7 3 0 n)),(9,some (i64 n)),(10,some (i64 i))]) (fun i=>[(7,some (.row 3 (((ab8 a).take i ++ (aaw [] n).drop i).map qA)))]) (fun i=>i <= n) (fun i=>n - i) 0 (zero_le _) ?_ (h1:=(.k (.cons rfl (Sub.int (by omega)) (.k .nil))));rintro i hi K1 hK1;refine gC (fun ht11=>?_) (fun ht11=>?_) (st2:=(7,0))
 ·have hin : i < n := by simpa [aaa] using ht11
  have hm1:=acx (a:=a);have hm2:=abf (a:=[]) (n:=n) (by simp);have hmx:=axb (p:=ab8 a) (w:=aaw [] n) (i:=i) (by omega) (by omega);have hqa:=(ha _ (ald (i:=i) (by omega))).ok;refine gi (aai (getD_some (i:=i) (by omega))) ?_;refine gc (agz (rt (a.getD i 0)) hqa) ?_;refine gs (aar (n:=i) (.tmp rfl) (.tmp rfl) T46 rfl T29 rfl (by omega) (by omega) rfl) ?_;refine gs (aa2 (.tmp rfl) rfl (aai hmx) rfl (.tmp rfl) rfl rfl T29 rfl rfl) ?_ (6,0);refine gW (Wk.of (sl:=[(0,some (nA a)),(3,some (.ms 7 3 0 n)),(9,some (i64 n)),(10,some (i64 i))]) (hp:=[(7,some (.row 3 (((ab8 a).take (i + 1) ++ (aaw [] n).drop (i + 1)).map qA)))]) abj (.cons rfl (BlkSub.of (by rw [asq (by omega) (by omega) (by rw [a7j,ahn])])) .nil)) ?_;refine ga aa0 ?_;exact gK1 hK1 (i + 1) hin
 ·have hin : i = n := by have : n <= i := (by simpa [aaa] using ht11); omega
  have hm1:=acx (a:=a);have hm2:=abf (a:=[]) (n:=n) (by simp);refine gW ((Wk.freeze (k:=7) rfl).trans <| Wk.of (sl:=[(3,some (nA (ab8 a)))]) (hp:=[]) (.cons rfl (Sub.of (by rw [abu (by simp; omega),hin,List.drop_of_length_le (by omega),take_of_length_le (by omega),List.append_nil]; rfl)) .nil) .nil) ?_;refine gE1 ?_;rfl
theorem aiz (a b:List Rat) (n:Nat) (la:a.length <= n) (lb:b.length <= n) (hn:n <= 274877906944):FnC prog 293 [nA a, nA b, i64 n] (nA (agi a b n)):=by
 refine gF0 func293 ?_;refine gt (aad (ahq 900 rfl a n la (by omega)) (.cons (.tmp rfl) (.cons (.tmp rfl) .nil)) (by first | exact hH0 | exact hH1 rfl | exact hH2 rfl rfl) rfl rfl) ?_;refine gc (ai5 b n lb (by omega)) ?_;refine gs (age (.tmp rfl) rfl (by simp [abf la]) (.tmp rfl) T46 rfl T29 rfl rfl (by simp [abf lb]; omega) rfl rfl) ?_;refine gE1 ?_;rw [<- map_append]; rfl
end Go.Lw
namespace Go.Lw
open Go.Proofs
theorem ad8 (ts:List (List Rat)) (m r:Nat) (ht:axu ts m r) (hm:m <= 5) (hml:m <= ts.length) (k:Nat):∀ (j:Nat) (a b:List Rat) (e f:Nat), j <= m -> j <= k -> Nl j a -> Nl j b -> Cb e a -> Cb f b -> e + f + eB r j < 4398046511104 ->
  FnC prog 234 [acm ts,nA a,nA b] (nA (pT ts k a b)):=by
 induction k using Nat.strongRecOn
 rename_i k ih;intro j a b e f hj hjk ha hb ca cb hs;have hla:=ha.len5 (by omega);have hlb:=hb.len5 (by omega);refine gF0 func234 ?_;refine gl ?_;refine gl ?_;refine gJ4 [3] [3] (fun (x y:List Rat) (e1 f1:Nat)=>[(1,some (nA x)),(2,some (nA y))]) (fun _ _ _ _=>[]) (fun x y e1 f1=>y.length <= x.length /\ Nl j x /\ Nl j y /\ Cb e1 x /\ Cb f1 y /\ e1 + f1 = e + f /\ pT ts k a b = pT ts k x y) ?_ ?_
 ·intro K1 hK1;refine gC (fun ht18=>?_) (fun ht18=>?_)
  ·have h1 : a.length < b.length := by have := ht18; simp only [aaa, decide_eq_true_eq] at this; omega
   exact jK4 hK1 b a f e ⟨by omega,hb,ha,cb,ca,by omega,ax4 ts k a b h1⟩
  ·have h1 : b.length <= a.length := by have := ht18; simp only [aaa, decide_eq_false_iff_not] at this; omega
   exact jK4 hK1 a b e f ⟨h1,ha,hb,ca,cb,rfl,rfl⟩
 ·rintro x y e1 f1 ⟨hyx, hx, hy, cx, cy, hef, hp⟩;have hlx:=hx.len5 (by omega);have hly:=hy.len5 (by omega);have qx:∀ q ∈ x,Qs q:=fun q hq=>cx.qs (by omega) hq
  have qy:∀ q ∈ y,Qs q:=fun q hq=>cy.qs (by omega) hq
  rw [hp];refine gc (ann x qx (by omega)) ?_;refine gcG (fun _=>(ann y qy (by omega))) ?_;refine gC (fun ht21=>?_) (fun ht21=>?_)
  ·have h1:abr x = true \/ abr y = true:=by
    have:=ht21;cases hz:abr x
    ·rw [hz] at this; exact .inr this
    ·exact .inl rfl
   refine gR ?_;exact aef (by rw [bik hyx h1]; exact Sub.nil _ _ _)
  ·have h1:¬ (abr x = true \/ abr y = true):=by
    have:=ht21;cases hz:abr x
    ·rw [hz] at this; intro h; rcases h with h | h; cases h; (rw [show abr y = false from this] at h; cases h)
    ·rw [hz] at this; cases this
   refine gl ?_;refine gC (fun ht28=>?_) (fun ht28=>?_)
   ·have h2 : x.length = 1 := by have := ht28; simp only [aaa, beq_iff_eq] at this; omega
    obtain ⟨p,rfl⟩:=List.length_eq_one_iff.1 h2;have h3:y ≠ []:=fun h=>h1 (.inr (by rw [h]; rfl))
    obtain ⟨q,rfl⟩:∃ q,y = [q]:=List.length_eq_one_iff.1 (by have:=List.length_pos_iff.2 h3; simp at hyx; omega);refine gi rfl ?_;refine gi rfl ?_;refine gc (aj8 (rt p) (rt q) (qx p (by simp)).ok (qy q (by simp)).ok) ?_;refine gD ?_;refine gE1 ?_;rw [bn1 h1,ahn,ahn]; rfl
   ·have h2 : x.length ≠ 1 := by have := ht28; simp only [aaa, beq_eq_false_iff_ne, ne_eq] at this; omega
    have h3:x ≠ []:=fun h=>h1 (.inl (by rw [h]; rfl))
    obtain ⟨i, hij, hxl⟩:∃ i, i + 1 <= j /\ x.length = 2 ^ (i + 1):=by
     rcases ahw hx with h | h | h
     ·exact absurd (List.length_eq_zero_iff.1 h) h3
     ·exact absurd h h2
     ·exact h
    obtain ⟨k',rfl⟩:∃ k',k = k' + 1:=⟨k - 1,by omega⟩
    have hp2:=Nat.two_pow_pos i;have hpi:2 ^ i <= 32:=aa1 (b:=5) (by omega);have hps:2 ^ (i + 1) = 2 * 2 ^ i:=by rw [Nat.pow_succ]; omega
    have hes:eB r (i + 1) <= eB r j:=aw3 r hij;have hee:eB r (i + 1) = 2 * eB r i + r + 2:=rfl;have n1:Nl i (x.take (2 ^ i)):=.inr ⟨i,le_refl _,ada hxl⟩;have n2:Nl i (x.drop (2 ^ i)):=.inr ⟨i,le_refl _,adh hxl⟩;refine gl ?_;refine gs (ad0 (.tmp rfl) (.const _) (by omega) (show _ = ((2 ^ i:Nat):Int) by rw [acd (by omega),hxl,ab2]) rfl) ?_;refine gs (aao (.tmp rfl) (.none _) (.some _ (.tmp rfl) (by omega)) T46 rfl T29 rfl (by omega) (by simp only [length_map]; omega) rfl) ?_;refine gs (aao (.tmp rfl) (.some _ (.tmp rfl) (by omega)) (.none _) T46 rfl T29 rfl (by simp only [length_map]; omega) (by omega) rfl) ?_;refine gD ?_ (9,0);refine gW (Wk.of (sl:=[(1,some (nA x)),(2,some (nA y)),(3,some (.ptr 3 0)),(7,some (i64 ((2 ^ i:Nat):Int))),(8,some (nA (x.take (2 ^ i)))),(9,some (nA (x.drop (2 ^ i))))]) (hp:=[(3,some (.box [.lst 1 (ts.map nA)]))]) (.k (.k (.k (.k (.cons rfl (Sub.of (agx x (2 ^ i))) (.cons rfl (Sub.of (af2 x (2 ^ i))) .nil)))))) (.cons rfl (.refl _) .nil)) ?_;refine gl ?_;refine gC (fun ht52=>?_) (fun ht52=>?_)
    ·have h4 : y.length <= 2 ^ i := by have := ht52; simp only [aaa, decide_eq_true_eq] at this; omega
     have n3:Nl i y:=a5v hy h4;have s1:=adi ts m ht.1 i k' _ _ (by omega) (by omega) n1 n3;have s2:=adi ts m ht.1 i k' _ _ (by omega) (by omega) n2 n3;refine gc (ih k' (by omega) i _ _ e1 f1 (by omega) (by omega) n1 n3 cx.take cy (by omega)) ?_;refine gc (ih k' (by omega) i _ _ e1 f1 (by omega) (by omega) n2 n3 cx.drop cy (by omega)) ?_;refine gc (aiz _ _ (2 ^ i) s1.1.le s2.1.le (by omega)) ?_;refine gD ?_;refine gE1 ?_;rw [be5 hxl h4 h1]
    ·have h4 : ¬ y.length <= 2 ^ i := by have := ht52; simp only [aaa, decide_eq_false_iff_not] at this; omega
     have hyl:=bhl hy h4 (by omega);have n3:Nl i (y.take (2 ^ i)):=.inr ⟨i,le_refl _,ada hyl⟩;have n4:Nl i (y.drop (2 ^ i)):=.inr ⟨i,le_refl _,adh hyl⟩;have nd:=ht.1 i (by omega);have cd:=ht.2.cb i;have s1:=adi ts m ht.1 i k' _ _ (by omega) (by omega) n1 n3;have s2:=adi ts m ht.1 i k' _ _ (by omega) (by omega) n2 n4;have s3:=adi ts m ht.1 i k' _ _ (by omega) (by omega) s2.1 nd;have s4:=adi ts m ht.1 i k' _ _ (by omega) (by omega) n1 n4;have s5:=adi ts m ht.1 i k' _ _ (by omega) (by omega) n2 n3;have c1:=Cb.mul ht (k:=k') (show i <= m by omega) (by omega) n1 n3 cx.take cy.take;have c2:=Cb.mul ht (k:=k') (show i <= m by omega) (by omega) n2 n4 cx.drop cy.drop;have c3:=Cb.mul ht (k:=k') (show i <= m by omega) (by omega) s2.1 nd c2 cd;have c4:=Cb.mul ht (k:=k') (show i <= m by omega) (by omega) n1 n4 cx.take cy.drop;have c5:=Cb.mul ht (k:=k') (show i <= m by omega) (by omega) n2 n3 cx.drop cy.take;have hpT:=bgo (ts:=ts) (k:=k') hxl h4 hyx h1;refine gs (aao (.tmp rfl) (.none _) (.some _ (.tmp rfl) (by omega)) T46 rfl T29 rfl (by omega) (by simp only [length_map]; omega) rfl) ?_;refine gs (aao (.tmp rfl) (.some _ (.tmp rfl) (by omega)) (.none _) T46 rfl T29 rfl (by simp only [length_map]; omega) (by omega) rfl) ?_;refine gD ?_ (12,0);refine gW (Wk.of (sl:=[(1,some (nA x)),(3,some (.ptr 3 0)),(7,some (i64 ((2 ^ i:Nat):Int))),(8,some (nA (x.take (2 ^ i)))),(9,some (nA (x.drop (2 ^ i)))),(10,some (nA (y.take (2 ^ i)))),(11,some (nA (y.drop (2 ^ i))))]) (hp:=[(3,some (.box [.lst 1 (ts.map nA)]))]) (.k (.k (.k (.k (.k (.cons rfl (Sub.of (agx y (2 ^ i))) (.cons rfl (Sub.of (af2 y (2 ^ i))) .nil))))))) (.cons rfl (.refl _) .nil)) ?_
     refine gc (aez qA x (by omega)) ?_;refine ga (show _ = (i:Int) by rw [hxl,am8,abd (by omega)]; omega) ?_;refine gi (az1 (j:=i) (by omega)) ?_;refine gD ?_;refine gc (ih k' (by omega) i _ _ e1 f1 (by omega) (by omega) n1 n3 cx.take cy.take (by omega)) ?_;refine gc (ih k' (by omega) i _ _ e1 f1 (by omega) (by omega) n2 n4 cx.drop cy.drop (by omega)) ?_;refine gc (ih k' (by omega) i _ _ _ _ (by omega) (by omega) s2.1 nd c2 cd (by omega)) ?_;refine gc (aek _ _ (fun q hq=>c1.qs (by omega) hq) (fun q hq=>c3.qs (by omega) hq) (by have:=s1.1.le; omega) (by have:=s3.1.le; omega)) ?_;refine gD ?_;refine gc (ih k' (by omega) i _ _ e1 f1 (by omega) (by omega) n1 n4 cx.take cy.drop (by omega)) ?_;refine gc (ih k' (by omega) i _ _ e1 f1 (by omega) (by omega) n2 n3 cx.drop cy.take (by omega)) ?_;refine gc (aek _ _ (fun q hq=>c4.qs (by omega) hq) (fun q hq=>c5.qs (by omega) hq) (by have:=s4.1.le; omega) (by have:=s5.1.le; omega)) ?_;refine gc (aiz _ _ (2 ^ i) (by have:=s1.1.le; have:=s3.1.le; rw [abl]; omega) (by have:=s4.1.le; have:=s5.1.le; rw [abl]; omega) (by omega)) ?_;refine gD ?_;refine gE1 ?_;rw [hpT]
theorem ajh (ts:List (List Rat)) (m r:Nat) (ht:axu ts m r) (hm:m <= 5) (hml:m <= ts.length) (i:Nat) (a:List Rat) (e:Nat) (hi:i + 1 <= m) (hal:a.length = 2 ^ (i + 1)) (ca:Cb e a) (hs:4 * e + 3 * eB r i + r + 1 < 4398046511104) :
  FnC prog 244 [acm ts,nA a] (nA (ako ts i a)):=by
 have hp2:=Nat.two_pow_pos i;have hpi:2 ^ i <= 32:=aa1 (b:=5) (by omega);have hps:2 ^ (i + 1) = 2 * 2 ^ i:=by rw [Nat.pow_succ]; omega
 have n1:Nl i (a.take (2 ^ i)):=.inr ⟨i,le_refl _,ada hal⟩;have n2:Nl i (a.drop (2 ^ i)):=.inr ⟨i,le_refl _,adh hal⟩;have nd:=ht.1 i (by omega);have cd:=ht.2.cb i;have s1:=adi ts m ht.1 i i _ _ (by omega) (by omega) n1 n1;have s2:=adi ts m ht.1 i i _ _ (by omega) (by omega) n2 n2;have s3:=adi ts m ht.1 i i _ _ (by omega) (by omega) s2.1 nd;have c1:=Cb.mul ht (k:=i) (show i <= m by omega) (by omega) n1 n1 ca.take ca.take;have c2:=Cb.mul ht (k:=i) (show i <= m by omega) (by omega) n2 n2 ca.drop ca.drop;have c3:=Cb.mul ht (k:=i) (show i <= m by omega) (by omega) s2.1 nd c2 cd;refine gF0 func244 ?_;refine gl ?_;refine gs (ad0 (.tmp rfl) (.const _) (by omega) (show _ = ((2 ^ i:Nat):Int) by rw [acd (by omega),hal,ab2]) rfl) ?_;refine gs (aao (.tmp rfl) (.none _) (.some _ (.tmp rfl) (by omega)) T46 rfl T29 rfl (by omega) (by simp only [length_map]; omega) rfl) ?_;refine gs (aao (.tmp rfl) (.some _ (.tmp rfl) (by omega)) (.none _) T46 rfl T29 rfl (by simp only [length_map]; omega) (by omega) rfl) ?_;refine gD ?_ (3,0);refine gW (Wk.of (sl:=[(1,some (nA a)),(2,some (.ptr 2 0)),(6,some (nA (a.take (2 ^ i)))),(7,some (nA (a.drop (2 ^ i))))]) (hp:=[(2,some (.box [.lst 1 (ts.map nA)]))]) (.k (.k (.cons rfl (Sub.of (agx a (2 ^ i))) (.cons rfl (Sub.of (af2 a (2 ^ i))) .nil)))) (.cons rfl (.refl _) .nil)) ?_;refine gc (ad8 ts m r ht hm hml i i _ _ e e (by omega) (by omega) n1 n1 ca.take ca.take (by omega)) ?_;refine gc (ad8 ts m r ht hm hml i i _ _ e e (by omega) (by omega) n2 n2 ca.drop ca.drop (by omega)) ?_;refine gc (aez qA a (by omega)) ?_;refine ga (show _ = (i:Int) by rw [hal,am8,abd (by omega)]; omega) ?_;refine gi (az1 (j:=i) (by omega)) ?_;refine gc (ad8 ts m r ht hm hml i i _ _ _ _ (by omega) (by omega) s2.1 nd c2 cd (by omega)) ?_;refine gc (af1 _ (fun q hq=>c3.qs (by omega) hq) (by have:=s3.1.le; omega)) ?_;refine gc (aek _ _ (fun q hq=>c1.qs (by omega) hq) (fun q hq=>c3.minus.qs (by omega) hq) (by have:=s1.1.le; omega) (by have:=s3.1.le; rw [acx]; omega)) ?_;refine gD ?_;refine gE1 ?_;rfl
theorem ael (ts:List (List Rat)) (m r:Nat) (ht:axu ts m r) (hm:m <= 5) (hml:m <= ts.length) (j:Nat):∀ (a:List Rat) (e:Nat), j <= m -> Nl j a -> Cb e a -> sB r j e < 4398046511104 ->
  FnC prog 158 [acm ts,nA a] (i64 (T.sgn (aaj ts) j (dec j a))):=by
 induction j using Nat.strongRecOn
 rename_i j ih;intro a e hj ha ca hs;have hse:=ayd r j e;have qa:∀ q ∈ a,Qs q:=fun q hq=>ca.qs (by omega) hq
 obtain ⟨s,hsa⟩:∃ s,s = sh j (dec j a):=⟨_,rfl⟩
 have hsd:dec j s = dec j a:=by rw [hsa,abk]
 have hsn:Nl j s:=by rw [hsa]; exact aip j _
 have cs:Cb e s:=by rw [hsa]; exact ca.sh ha
 have hls:=hsn.len5 (by omega);rw [<- hsd];refine gF0 func158 ?_;refine gc (hsa ▸ ab4 a (by omega) ha qa) ?_;refine gl ?_;refine gC (fun ht12=>?_) (fun ht12=>?_)
 ·have h1 : s = [] := List.length_eq_zero_iff.1 (by have := ht12; simp only [aaa, beq_iff_eq] at this; omega);refine gE1 ?_;rw [h1,afa,T.sgn_zero]; rfl
 ·have h1 : s.length ≠ 0 := by have := ht12; simp only [aaa, beq_eq_false_iff_ne, ne_eq] at this; omega
  refine gl ?_;refine gC (fun ht15=>?_) (fun ht15=>?_)
  ·have h2 : s.length = 1 := by have := ht15; simp only [aaa, beq_iff_eq] at this; omega
   obtain ⟨q,rfl⟩:=List.length_eq_one_iff.1 h2;refine gi rfl ?_;refine gc (aer (rt q) (cs.qs (by omega) (by simp:q ∈ [q])).ok) ?_;refine gE1 ?_;rw [air,T.sgn_ofQ,ahn]
  ·have h2 : s.length ≠ 1 := by have := ht15; simp only [aaa, beq_eq_false_iff_ne, ne_eq] at this; omega
   obtain ⟨i, hij, hsl⟩:∃ i, i + 1 <= j /\ s.length = 2 ^ (i + 1):=by
    rcases ahw hsn with h | h | h
    ·exact absurd h h1
    ·exact absurd h h2
    ·exact h
   have hp2:=Nat.two_pow_pos i;have hpi:2 ^ i <= 32:=aa1 (b:=5) (by omega);have hps:2 ^ (i + 1) = 2 * 2 ^ i:=by rw [Nat.pow_succ]; omega
   have n1:Nl i (s.take (2 ^ i)):=.inr ⟨i,le_refl _,ada hsl⟩;have n2:Nl i (s.drop (2 ^ i)):=.inr ⟨i,le_refl _,adh hsl⟩;have nd:=ht.1 i (by omega);have cd:=ht.2.cb i;obtain ⟨nn,dn,cn⟩:=ajk ht (by omega) hsl cs;have b1:sB r i (4 * e + 3 * eB r i + r + 1) <= sB r j e:=av8 r e hij;have b2:sB r i e <= sB r i (4 * e + 3 * eB r i + r + 1):=ak5 r i (by omega);have b3:sB r i r <= sB r i (4 * e + 3 * eB r i + r + 1):=ak5 r i (by omega);have b4:=ayd r i (4 * e + 3 * eB r i + r + 1);have k1:=ih i (by omega) (s.take (2 ^ i)) e (by omega) n1 cs.take (by omega);have k2:=ih i (by omega) (s.drop (2 ^ i)) e (by omega) n2 cs.drop (by omega);have k3:=ih i (by omega) _ r (by omega) nd cd (by omega);have k4:=ih i (by omega) _ _ (by omega) nn cn (by omega)
   have hres:T.sgn (aaj ts) j (dec j s) = T.sgn3 (T.sgn (aaj ts) i (dec i (s.take (2 ^ i)))) (T.sgn (aaj ts) i (dec i (s.drop (2 ^ i)))) (T.sgn (aaj ts) i (dec i (ts.getD i []))) (T.sgn (aaj ts) i (dec i (ako ts i s))):=by
    rw [ao8 _ (by omega) hij,dn]; rfl
   have v1:=T.sgn_cases (aaj ts) i (dec i (s.take (2 ^ i)));have v4:=T.sgn_cases (aaj ts) i (dec i (ako ts i s));refine gl ?_;refine gs (ad0 (.tmp rfl) (.const _) (by omega) (show _ = ((2 ^ i:Nat):Int) by rw [acd (by omega),hsl,ab2]) rfl) ?_;refine gs (aao (.tmp rfl) (.none _) (.some _ (.tmp rfl) (by omega)) T46 rfl T29 rfl (by omega) (by simp only [length_map]; omega) rfl) ?_;refine gc (by have h9:=k1; rw [<- agx] at h9; exact h9) ?_;refine gs (aao (.tmp rfl) (.some _ (.tmp rfl) (by omega)) (.none _) T46 rfl T29 rfl (by simp only [length_map]; omega) (by omega) rfl) ?_;refine gc (by have h9:=k2; rw [<- af2] at h9; exact h9) ?_;refine gD ?_;refine gc (aez qA s (by omega)) ?_;refine ga (show _ = (i:Int) by rw [hsl,am8,abd (by omega)]; omega) ?_;refine gi (az1 (j:=i) (by omega)) ?_;refine gc k3 ?_;refine gD ?_;refine gC (fun ht42=>?_) (fun ht42=>?_)
   ·have e1 : T.sgn (aaj ts) i (dec i (ts.getD i [])) = 0 := by simpa [aaa] using ht42
    refine gE1 ?_;rw [hres]; unfold T.sgn3; rw [if_pos e1]
   ·have e1 : ¬ T.sgn (aaj ts) i (dec i (ts.getD i [])) = 0 := by simpa [aaa] using ht42
    refine gC (fun ht44=>?_) (fun ht44=>?_)
    ·have e2:T.sgn (aaj ts) i (dec i (s.take (2 ^ i))) = T.sgn (aaj ts) i (dec i (s.drop (2 ^ i))) \/ T.sgn (aaj ts) i (dec i (s.drop (2 ^ i))) = 0:=ayc ht44;refine gE1 ?_;rw [hres]; unfold T.sgn3; rw [if_neg e1,if_pos e2]
    ·have e2:¬ (T.sgn (aaj ts) i (dec i (s.take (2 ^ i))) = T.sgn (aaj ts) i (dec i (s.drop (2 ^ i))) \/ T.sgn (aaj ts) i (dec i (s.drop (2 ^ i))) = 0):=ask ht44;refine gC (fun ht53=>?_) (fun ht53=>?_)
     ·have e3 : T.sgn (aaj ts) i (dec i (s.take (2 ^ i))) = 0 := by simpa [aaa] using ht53
      refine gE1 ?_;rw [hres]; unfold T.sgn3; rw [if_neg e1,if_neg e2,if_pos e3]
     ·have e3 : ¬ T.sgn (aaj ts) i (dec i (s.take (2 ^ i))) = 0 := by simpa [aaa] using ht53
      refine gc (ajh ts m r ht hm hml i s e (by omega) hsl cs (by omega)) ?_;refine gc k4 ?_;refine ga (aqr v1 v4) ?_;refine gD ?_;refine gE1 ?_;rw [hres]; unfold T.sgn3; rw [if_neg e1,if_neg e2,if_neg e3]; rfl
end Go.Lw
namespace Go.Lw
open Go.Proofs
theorem aes (rs:List (List Rt)) (r:Nat) (h:TR rs r):FnC prog 70 [aj2 rs] (aik (ae1 rs)):=by
 have hll:=h.ll;have hr:=h.le;refine gF0 func70 ?_;refine gl ?_;refine gC (fun ht10=>?_) (fun ht10=>?_)
 ·have h5 : 5 < rs.length := by have := ht10; simp only [aaa, decide_eq_true_eq] at this; omega
  refine gE1 ?_;rw [a0q h5]; rfl
 ·have h5 : rs.length <= 5 := by have := ht10; simp only [aaa, decide_eq_false_iff_not] at this; omega
  refine gl ?_;refine gL1 [1,13,14] [1] (fun (k:Nat)=>[(15,some (i64 k))]) (fun _=>[]) (fun k=>k <= rs.length /\ ∀ j,j < k -> azg rs j) (fun k=>rs.length - k) 0 ⟨zero_le _,fun j hj=>by omega⟩ ?_;rintro k ⟨hk,hj⟩ K1 hK1;refine gC (fun ht16=>?_) (fun ht16=>?_)
  ·have hin : k < rs.length := by simpa [aaa] using ht16
   obtain ⟨d,hd⟩:=acj hin;have hdm:=mem_of_getElem? hd;have hdl:=h.len d hdm;refine gi (aai hd) ?_;refine gl ?_;refine gs (afx (.const _) (.tmp rfl) (by omega) (ah8 (by omega)) rfl) ?_;refine gC (fun ht24=>?_) (fun ht24=>?_)
   ·have h1 : d.length ≠ 2 ^ k := by have := ht24; simp only [aaa, bne_iff_ne, ne_eq] at this; omega
    refine gE1 ?_;rw [a1w h5 hd hj h1]; rfl
   ·have h1 : d.length = 2 ^ k := by have := ht24; simp only [aaa, bne_eq_false_iff_eq] at this; omega
    have htl:(rs.take k).length = k:=by simp; omega
    have hnu:=akc (rs.take k) d (h.ok d hdm) hdl (by omega);rw [htl] at hnu;refine gs (aao (.tmp rfl) (.none _) (.some _ (.tmp rfl) (by omega)) T34 rfl T46 rfl (by omega) (by simp only [length_map]; omega) rfl) ?_ (9,0);refine gW (Wk.of (sl:=[(1,some (.ptr 1 0)),(3,some (i64 k)),(4,some (nR d)),(5,some (.ptr 5 0)),(13,some (.lst 1 (rs.map nR))),(14,some (i64 rs.length)),(15,some (i64 k))]) (hp:=[(1,some (.box [.lst 1 (rs.map nR)])),(5,some (.box [.lst 1 ((rs.take k).map nR)]))]) abj (.cons rfl (.refl _) (.cons rfl (BlkSub.boxL (.cons (.of (bar nR rs k)) .nil) rfl) .nil))) ?_;refine gc hnu ?_;refine gC (fun ht35=>?_) (fun ht35=>?_)
    ·have h2:=aea ht35;refine gE1 ?_;rw [azr h5 hd hj h1 h2]
    ·have h2:=adu ht35;have hts:=auu (ts:=llq rs) (fun j hjk=>(hj j hjk).nl) h.rb;have hq:=asx h2 (h.ok d hdm);have hcb:Cb r (lq d):=by have:=h.rb.cb k; rw [al4,getD_eq_getElem?_getD,hd] at this; exact this
     have hsg:FnC prog 158 [aj2 (rs.take k), nR d] (i64 (T.sgn (aaj (llq rs)) k (dec k (lq d)))):=by
      have h9:=ael ((llq rs).take k) k r hts (by omega) (by simp; omega) k (lq d) r (le_refl _) hq.2 hcb (axd (le_refl k) (by have:=h.three; omega) hr (by have:=ard k; omega));rw [T.sgn_congr k (fun j hjk=>af7 hjk)] at h9;rw [a6u h.ok (by omega) hj,hq.1,ai7];rw [<- hq.1]; exact h9
     refine gc hsg ?_;refine gC (fun ht40=>?_) (fun ht40=>?_)
     ·have h3 : T.sgn (aaj (llq rs)) k (dec k (lq d)) < 0 := by simpa [aaa] using ht40
      refine gE1 ?_;rw [a09 h5 hd hj h1 h2 h3]; rfl
     ·have h3 : ¬ T.sgn (aaj (llq rs)) k (dec k (lq d)) < 0 := by simpa [aaa] using ht40
      refine ga aa0 ?_;exact gK1 hK1 (k + 1) ⟨hin,fun j hjk=>by rcases lt_or_ge j k with h9 | h9; exact hj j h9; (have:j = k:=by omega); subst this; exact a4u hd h1 h2 h3⟩
  ·have hin : k = rs.length := by have : rs.length <= k := (by simpa [aaa] using ht16); omega
   subst hin;refine gE1 ?_;rw [azx h5 hj]; rfl
theorem acz (rs:List (List Rt)) (r:Nat) (h:TR rs r) (xs:List (List Rt)) (hx:∀ a ∈ xs, (∀ x ∈ a, x.ok) /\ a.length <= 281474976710656) (hl:xs.length <= 281474976710656):FnC prog 163 [aj2 rs, .lst 1 (xs.map nR)] (aik (acb rs xs)):=by
 refine gF0 func163 ?_;refine gc (aes rs r h) ?_;refine gC (fun ht12=>?_) (fun ht12=>?_)
 ·have h1:=aea ht12;refine gE1 ?_;rw [a2a h1]
 ·have h1:=adu ht12;refine gl ?_;refine gL1 [2,14,15] [2] (fun (i:Nat)=>[(16,some (i64 i))]) (fun _=>[]) (fun i=>i <= xs.length /\ ∀ x ∈ xs.take i,ahm rs.length x = 0) (fun i=>xs.length - i) 0 ⟨zero_le _,fun x hx=>by simp at hx⟩ ?_;rintro i ⟨hi,hj⟩ K1 hK1;refine gC (fun ht17=>?_) (fun ht17=>?_)
  ·have hin : i < xs.length := by simpa [aaa] using ht17
   obtain ⟨a,ha⟩:=acj hin;have hok:=hx a (mem_of_getElem? ha);refine gi (aai ha) ?_;refine gc (akc rs a hok.1 hok.2 h.ll) ?_;refine gC (fun ht24=>?_) (fun ht24=>?_)
   ·have h2:=aea ht24;refine gE1 ?_;rw [ax8 h1 ha hj h2]
   ·have h2:=adu ht24;refine ga aa0 ?_;exact gK1 hK1 (i + 1) ⟨hin,fun x hx=>by rw [aap ha] at hx; rcases List.mem_append.1 hx with h9 | h9; exact hj x h9; (rw [List.mem_singleton.1 h9]; exact h2)⟩
  ·have hin : i = xs.length := by have : xs.length <= i := (by simpa [aaa] using ht17); omega
   subst hin;rw [take_length] at hj;refine gE1 ?_;rw [aqz h1 hj]; rfl
theorem ap6 (rs:List (List Rt)) (r:Nat) (h:TR rs r) (a:List Rt) (e:Nat) (ha:NR a e) (he:e <= lm rs.length) :
  FnC prog 73 [aj2 rs,nR a] (.tup [nA (if acb rs [a] = 0 then sh rs.length (T.neg rs.length (dec rs.length (lq a))) else []),aik (acb rs [a])]):=by
 have hlm:=aq5 rs.length;refine gF0 func73 ?_;refine gc (acz rs r h [a] (fun x hx=>by rw [List.mem_singleton.1 hx]; exact ⟨ha.ok,ha.len⟩) (by simp)) ?_;refine gC (fun ht12=>?_) (fun ht12=>?_) (st2:=(77777,0))
 ·have h1:=aea ht12;refine gR ?_;exact adc (by rw [if_neg h1]; exact Sub.tup (.cons (.nil _ _ _) (.cons (.refl _) .nil)))
 ·have h1:=adu ht12;obtain ⟨h2,h3⟩:=ak7 h1;obtain ⟨tw,_⟩:=ac5 h h2;obtain ⟨e1,na⟩:=ha.num (h3 a (by simp));have h5:rs.length <= 5:=by have:=tw.five; rwa [length_map] at this
  have hl:=na.len5 h5;have qa:∀ q ∈ lq a,Qs q:=fun q hq=>ha.cb.qs (by omega) hq
  have qm:∀ q ∈ ab8 (lq a),Qs q:=fun q hq=>ha.cb.minus.qs (by omega) hq
  have nm:=ajl na;refine gW (Wk.of (sl:=[(1,some (nA (lq a))),(2,some (.ptr 2 0)),(6,some (aik (acb rs [a])))]) (hp:=[(2,some (.box [.lst 1 (rs.map nR)]))]) (.cons rfl (Sub.of e1) (.k (.k .nil))) (.cons rfl (.refl _) .nil)) ?_;refine gc (af1 _ qa (by omega)) ?_;refine gc (ab4 _ h5 nm qm) ?_;refine gE2 ?_;rw [if_pos h1,h1,afs]; rfl
theorem ayp (rs:List (List Rt)) (r:Nat) (h:TR rs r) (a b:List Rt) (e f:Nat) (ha:NR a e) (hb:NR b f) (he:e + f <= lm rs.length) :
  FnC prog 274 [aj2 rs,nR a,nR b] (.tup [nA (if acb rs [a,b] = 0 then sh rs.length (T.add rs.length (dec rs.length (lq a)) (dec rs.length (lq b))) else []),aik (acb rs [a,b])]):=by
 have hlm:=aq5 rs.length;refine gF0 func274 ?_;refine gc (acz rs r h [a,b] (avf ha hb) (by simp)) ?_;refine gC (fun ht15=>?_) (fun ht15=>?_) (st2:=(77777,0))
 ·have h1:=aea ht15;refine gR ?_;exact adc (by rw [if_neg h1]; exact Sub.tup (.cons (.nil _ _ _) (.cons (.refl _) .nil)))
 ·have h1:=adu ht15;obtain ⟨h2,h3⟩:=ak7 h1;obtain ⟨tw,e0⟩:=ac5 h h2;obtain ⟨e1,na⟩:=ha.num (h3 a (by simp));obtain ⟨e2,nb⟩:=hb.num (h3 b (by simp));have h5:rs.length <= 5:=by have:=tw.five; rwa [length_map] at this
  have hla:=na.len5 h5;have hlb:=nb.len5 h5;have qa:∀ q ∈ lq a,Qs q:=fun q hq=>ha.cb.qs (by omega) hq
  have qb:∀ q ∈ lq b,Qs q:=fun q hq=>hb.cb.qs (by omega) hq
  have qp:∀ q ∈ ac4 (lq a) (lq b),Qs q:=fun q hq=>(ha.cb.plus hb.cb).qs (by omega) hq
  have np:=amv na nb;refine gW (Wk.of (sl:=[(1,some (nA (lq a))),(2,some (nA (lq b))),(3,some (.ptr 3 0)),(8,some (aik (acb rs [a,b])))]) (hp:=[(3,some (.box [.lst 1 (rs.map nR)]))]) (.cons rfl (Sub.of e1) (.cons rfl (Sub.of e2) (.k (.k .nil)))) (.cons rfl (.refl _) .nil)) ?_;refine gc (aek _ _ qa qb (by omega) (by omega)) ?_;refine gc (ab4 _ h5 np qp) ?_;refine gE2 ?_;rw [if_pos h1,h1,ad9]; rfl
theorem ay3 (rs:List (List Rt)) (r:Nat) (h:TR rs r) (a b:List Rt) (e f:Nat) (ha:NR a e) (hb:NR b f) (he:e + f <= lm rs.length) :
  FnC prog 147 [aj2 rs,nR a,nR b] (.tup [nA (if acb rs [a,b] = 0 then sh rs.length (T.add rs.length (dec rs.length (lq a)) (T.neg rs.length (dec rs.length (lq b)))) else []),aik (acb rs [a,b])]):=by
 have hlm:=aq5 rs.length;refine gF0 func147 ?_;refine gc (acz rs r h [a,b] (avf ha hb) (by simp)) ?_;refine gC (fun ht15=>?_) (fun ht15=>?_) (st2:=(77777,0))
 ·have h1:=aea ht15;refine gR ?_;exact adc (by rw [if_neg h1]; exact Sub.tup (.cons (.nil _ _ _) (.cons (.refl _) .nil)))
 ·have h1:=adu ht15;obtain ⟨h2,h3⟩:=ak7 h1;obtain ⟨tw,e0⟩:=ac5 h h2;obtain ⟨e1,na⟩:=ha.num (h3 a (by simp));obtain ⟨e2,nb⟩:=hb.num (h3 b (by simp));have h5:rs.length <= 5:=by have:=tw.five; rwa [length_map] at this
  have hla:=na.len5 h5;have hlb:=nb.len5 h5;have qa:∀ q ∈ lq a,Qs q:=fun q hq=>ha.cb.qs (by omega) hq
  have qb:∀ q ∈ lq b,Qs q:=fun q hq=>hb.cb.qs (by omega) hq
  have qm:∀ q ∈ ab8 (lq b),Qs q:=fun q hq=>hb.cb.minus.qs (by omega) hq
  have qp:∀ q ∈ ac4 (lq a) (ab8 (lq b)),Qs q:=fun q hq=>(ha.cb.plus hb.cb.minus).qs (by omega) hq
  have np:=amv na (ajl nb);refine gW (Wk.of (sl:=[(1,some (nA (lq a))),(2,some (nA (lq b))),(3,some (.ptr 3 0)),(8,some (aik (acb rs [a,b])))]) (hp:=[(3,some (.box [.lst 1 (rs.map nR)]))]) (.cons rfl (Sub.of e1) (.cons rfl (Sub.of e2) (.k (.k .nil)))) (.cons rfl (.refl _) .nil)) ?_;refine gc (af1 _ qb (by omega)) ?_;refine gc (aek _ _ qa qm (by omega) (by rw [acx]; omega)) ?_;refine gc (ab4 _ h5 np qp) ?_;refine gE2 ?_;rw [if_pos h1,h1,ad9,afs]; rfl
theorem azc (rs:List (List Rt)) (r:Nat) (h:TR rs r) (a b:List Rt) (e f:Nat) (ha:NR a e) (hb:NR b f) (he:e + f <= lm rs.length) :
  FnC prog 148 [aj2 rs,nR a,nR b] (.tup [nA (if acb rs [a,b] = 0 then sh rs.length (T.mul (aaj (llq rs)) rs.length (dec rs.length (lq a)) (dec rs.length (lq b))) else []),aik (acb rs [a,b])]):=by
 have hr:=h.le;have hlm:=aq5 rs.length;refine gF0 func148 ?_;refine gc (acz rs r h [a,b] (avf ha hb) (by simp)) ?_;refine gC (fun ht15=>?_) (fun ht15=>?_) (st2:=(77777,0))
 ·have h1:=aea ht15;refine gR ?_;exact adc (by rw [if_neg h1]; exact Sub.tup (.cons (.nil _ _ _) (.cons (.refl _) .nil)))
 ·have h1:=adu ht15;obtain ⟨h2,h3⟩:=ak7 h1;obtain ⟨tw,e0⟩:=ac5 h h2;obtain ⟨e1,na⟩:=ha.num (h3 a (by simp));obtain ⟨e2,nb⟩:=hb.num (h3 b (by simp));have hlen:(llq rs).length = rs.length:=length_map _;have h5:rs.length <= 5:=by have:=tw.five; omega
  have hla:=na.len5 h5;have hlb:=nb.len5 h5;have htw:=tw.ok;rw [hlen] at htw;have hE:=bgs r h5;have np:=adi (llq rs) rs.length htw.1 rs.length rs.length _ _ (le_refl _) (le_refl _) na nb;have cp:=Cb.mul htw (k:=rs.length) (le_refl rs.length) (le_refl _) na nb ha.cb hb.cb;have hti:=ad8 (llq rs) rs.length r htw h5 (by omega) rs.length rs.length _ _ e f (le_refl _) (le_refl _) na nb ha.cb hb.cb (by omega);refine gW (Wk.of (sl:=[(1,some (nA (lq a))),(2,some (nA (lq b))),(3,some (.ptr 3 0)),(8,some (aik (acb rs [a,b])))]) (hp:=[(3,some (.box [.lst 1 ((llq rs).map nA)]))]) (.cons rfl (Sub.of e1) (.cons rfl (Sub.of e2) (.k (.k .nil)))) (.cons rfl (BlkSub.boxL (.cons (.of (aiy e0)) .nil) rfl) .nil)) ?_;refine gc hti ?_;refine gc (ab4 _ h5 np.1 (fun q hq=>cp.qs (by omega) hq)) ?_;refine gE2 ?_;rw [if_pos h1,h1,np.2]; rfl
theorem avn (rs:List (List Rt)) (r:Nat) (h:TR rs r) (a:List Rt) (e:Nat) (ha:NR a e) (he:e <= lm rs.length) :
  FnC prog 192 [aj2 rs,nR a] (.tup [i64 (if acb rs [a] = 0 then T.sgn (aaj (llq rs)) rs.length (dec rs.length (lq a)) else 0),aik (acb rs [a])]):=by
 have hr:=h.le;have hlm:=aq5 rs.length;refine gF0 func192 ?_;refine gc (acz rs r h [a] (fun x hx=>by rw [List.mem_singleton.1 hx]; exact ⟨ha.ok,ha.len⟩) (by simp)) ?_;refine gC (fun ht12=>?_) (fun ht12=>?_) (st2:=(77777,0))
 ·have h1:=aea ht12;refine gE2 ?_;rw [if_neg h1]; rfl
 ·have h1:=adu ht12;obtain ⟨h2,h3⟩:=ak7 h1;obtain ⟨tw,e0⟩:=ac5 h h2;obtain ⟨e1,na⟩:=ha.num (h3 a (by simp));have hlen:(llq rs).length = rs.length:=length_map _;have h5:rs.length <= 5:=by have:=tw.five; omega
  have htw:=tw.ok;rw [hlen] at htw;have hsg:=ael (llq rs) rs.length r htw h5 (by omega) rs.length _ _ (le_refl _) na ha.cb (axd (le_refl rs.length) (by have:=tw.three; omega) hr (by omega));refine gW (Wk.of (sl:=[(1,some (nA (lq a))),(2,some (.ptr 2 0)),(6,some (aik (acb rs [a])))]) (hp:=[(2,some (.box [.lst 1 ((llq rs).map nA)]))]) (.cons rfl (Sub.of e1) (.k (.k .nil))) (.cons rfl (BlkSub.boxL (.cons (.of (aiy e0)) .nil) rfl) .nil)) ?_;refine gc hsg ?_;refine gE2 ?_;rw [if_pos h1,h1]; rfl
theorem a23 (x:Rt) (hx:x.ok) (hs:Qs x.q):FnC prog 134 [x.av] (nA (sh 0 (x.q:Rat))):=by
 have hadd:=adg x (rt 0) hx Qs.zero.ok;rw [bbf] at hadd;refine gF0 func134 ?_;refine gc (Con.subA (.cons (.refl _) (.cons aje .nil)) hadd) ?_;refine gc (ab4 (n:=0) [x.q] (by omega) (.inr ⟨0,le_refl _,rfl⟩) (fun q hq=>by rw [List.mem_singleton.1 hq]; exact hs)) ?_;refine gE1 ?_;rfl
end Go.Lw
namespace Go.Lw
open Go.Proofs
theorem agc (n:Nat) (hn:n <= 281474976710656):FnC prog 238 [i64 n] (.tup [i64 (pwk n), bl (pwb n)]):=by
 refine gF0 func238 ?_;refine gL1 [0] [] (fun (k:Nat)=>[(5,some (i64 k))]) (fun _=>[]) (fun k=>k <= 6 /\ ∀ j,j < k -> n ≠ 2 ^ j) (fun k=>6 - k) 0 ⟨by omega,fun j h=>by omega⟩ ?_;rintro k ⟨hk,hj⟩ K1 hK1;refine gC (fun ht6=>?_) (fun ht6=>?_)
 ·have h1 : k < 6 := by have := ht6; simp only [aaa, decide_eq_true_eq] at this; omega
  refine gs (afx (.const _) (.tmp rfl) (by omega) (ah8 (by omega)) rfl) ?_;refine gC (fun ht11=>?_) (fun ht11=>?_)
  ·have h2 : n = 2 ^ k := by have := ht11; simp only [aaa, beq_iff_eq] at this; omega
   refine gE2 ?_;rw [h2,(atn (by omega)).1,(atn (by omega)).2]; rfl
  ·have h2 : n ≠ 2 ^ k := by have := ht11; simp only [aaa, beq_eq_false_iff_ne, ne_eq] at this; omega
   refine ga (aa4 (by omega)) ?_;exact gK1 hK1 (k + 1) ⟨by omega,fun j h=>by rcases lt_or_ge j k with h3 | h3; exact hj j h3; (have:j = k:=by omega); subst this; exact h2⟩
 ·have h1 : k = 6 := by have := ht6; simp only [aaa, decide_eq_false_iff_not] at this; omega
  subst h1;refine gE2 ?_;rw [(a73 hj).1,(a73 hj).2]; rfl
theorem anw (m:Nat) (hm:m <= 5) (a:List Rt) (ha:∀ r ∈ a, r.ok) (hl:a.length <= 281474976710656):FnC prog 219 [i64 m, nR a] (i64 (ahm m a)):=by
 refine gF0 func219 ?_;refine gl ?_;refine gc (agc a.length hl) ?_;refine gl ?_;refine gC (fun ht26=>?_) (fun ht26=>?_)
 ·have h1:a ≠ [] /\ (lvl a.length < 0 \/ (m:Int) < lvl a.length):=(a00 hm a).2 (bfj ht26);refine gE1 ?_;unfold ahm; rw [if_pos h1]; rfl
 ·have hn:¬ (a ≠ [] /\ (lvl a.length < 0 \/ (m:Int) < lvl a.length)):=fun h=>bjo ht26 ((a00 hm a).1 h)
  refine gl ?_;refine gL1 [27,28] [] (fun (i:Nat)=>[(29,some (i64 i))]) (fun _=>[]) (fun i=>i <= a.length /\ (a.take i).all Rt.valid = true) (fun i=>a.length - i) 0 ⟨zero_le _,by simp⟩ ?_;rintro i ⟨hi,hv⟩ K1 hK1;refine gC (fun ht30=>?_) (fun ht30=>?_)
  ·have hin : i < a.length := by simpa [aaa] using ht30
   obtain ⟨r,hr⟩:=acj hin;have hrok:=ha r (mem_of_getElem? hr);refine gi (aai hr) ?_;refine gc (aoq r hrok) ?_;refine gC (fun ht35=>?_) (fun ht35=>?_)
   ·have hrv : r.valid = false := by simpa using ht35
    refine gE1 ?_;unfold ahm;rw [if_neg hn,if_neg]
    ·rfl
    ·rw [all_eq_true];intro h;rw [h r (mem_of_getElem? hr)] at hrv; cases hrv
   ·have hrv : r.valid = true := by simpa using ht35
    refine ga aa0 ?_;exact gK1 hK1 (i + 1) ⟨by omega,by rw [aap hr,all_append,hv]; simp [hrv]⟩
  ·have hin : i = a.length := by have : a.length <= i := (by simpa [aaa] using ht30); omega
   subst hin;rw [take_length] at hv;refine gE1 ?_;unfold ahm; rw [if_neg hn,if_pos hv]; rfl
theorem ao0 (a:List Rat) (hl:a.length <= 281474976710656):FnC prog 294 [nA a] (bl (abr a)):=by
 refine gF0 func294 ?_;refine gl ?_;refine gL1 [5,6] [] (fun (i:Nat)=>[(7,some (i64 i))]) (fun _=>[]) (fun i=>i <= a.length /\ abr (a.take i) = true) (fun i=>a.length - i) 0 ⟨zero_le _,by simp [abr]⟩ ?_;rintro i ⟨hi,hv⟩ K1 hK1;refine gC (fun ht8=>?_) (fun ht8=>?_)
 ·have hin : i < a.length := by simpa [aaa] using ht8
  obtain ⟨q,hq⟩:=acj hin;refine gi (aai hq) ?_;refine glG ?_;refine glG ?_;refine gC (fun ht24=>?_) (fun ht24=>?_)
  ·have h0:q ≠ 0:=a97 ht24;refine gE1 ?_
   have:abr a = false:=by
    rw [Bool.eq_false_iff];intro h;exact h0 (by simpa using List.all_eq_true.1 h q (mem_of_getElem? hq))
   rw [this]; rfl
  ·have h0:q = 0:=a9x ht24;refine ga aa0 ?_;exact gK1 hK1 (i + 1) ⟨by omega,by rw [aap hq]; simp only [abr,all_append,and_eq_true]; exact ⟨hv,by simp [h0]⟩⟩
 ·have hin : i = a.length := by have : a.length <= i := (by simpa [aaa] using ht8); omega
  subst hin;rw [take_length] at hv;refine gE1 ?_;rw [hv]; rfl
theorem akx {n:Nat} (a:List Rat) (hn:n <= 5) (ha:Nl n a):FnC prog 237 [nA a] (nA (sh n (dec n a))):=by
 have hl:=ha.len5 hn;rw [<- ai0 ha hn];refine gF0 func237 ?_;refine gl ?_;refine gc (agc a.length (by omega)) ?_;refine gC (fun ht13=>?_) (fun ht13=>?_)
 ·have h0:a = []:=by
   rcases ha with h | ⟨j,hj,h⟩
   ·exact h
   ·have h9:=ht13;rw [h,(atn (by omega)).2] at h9; cases h9
  refine gs (acp T46 rfl T29 rfl rfl rfl) ?_;refine gs (age (.tmp rfl) rfl rfl (.tmp rfl) T46 rfl T29 rfl rfl (by simp [h0]) rfl rfl) ?_;refine gE1 ?_;subst h0; rfl
 ·refine gl ?_;refine gL1 [0] [] (fun (m:Nat)=>[(5,some (i64 m))]) (fun _=>[]) (fun m=>bai a m) (fun m=>m) a.length (a8w (ha.mono hn)) ?_;rintro m hm K1 hK1;refine gs (abx rfl rfl rfl (fun h=>ad0 (.opt rfl (o1 h)) (.const _) (by omega) (acd (by have:=hm.le; omega)) rfl)) ?_;refine gs (abx rfl rfl rfl (fun h=>aao (.opt rfl (o1 h)) (.some _ (.opt rfl (o1 h)) (by omega)) (.some _ (.opt rfl (o1 h)) (by omega)) T46 rfl T29 rfl (by omega) (by have:=hm.le; simp; omega) rfl)) ?_;refine gcG (fun _=>(by have h9:=ao0 ((a.drop (m / 2)).take (m - m / 2)) (by simp; omega); rw [<- aw2] at h9; exact h9)) ?_;refine gC (fun ht28=>?_) (fun ht28=>?_)
  ·have h1:1 < m /\ abr ((a.drop (m / 2)).take (m - m / 2)) = true:=by
    have h9:=ht28
    by_cases h:(m:Int) > 1
    ·simp only [aaa,decide_eq_true h,cond_true] at h9; exact ⟨by omega,h9⟩
    ·simp only [aaa,decide_eq_false h,cond_false] at h9; cases h9
   refine gs (ad0 (.tmp rfl) (.const _) (by omega) (acd (by have:=hm.le; omega)) rfl) ?_;exact gK1 hK1 (m / 2) (a7q hm h1.1 h1.2)
  ·have h1:1 < m -> abr ((a.drop (m / 2)).take (m - m / 2)) = false:=by
    intro h;have h9:=ht28;simp only [aaa,decide_eq_true (show (m:Int) > 1 by omega),cond_true] at h9;exact h9
   refine gs (abx rfl rfl rfl (fun h=>aao (.opt rfl (o1 h)) (.none _) (.some _ (.const _) (by omega)) T46 rfl T29 rfl (by omega) (by have h8:(m:Int) = 1:=(by simpa [aaa] using h); have:=hm.le; simp only [length_map]; omega) rfl)) ?_;refine gcG (fun _=>(by have h9:=ao0 ((a.drop 0).take 1) (by simp; omega); rw [<- aw2] at h9; exact h9)) ?_;refine gC (fun ht37=>?_) (fun ht37=>?_)
   ·have h2:m = 1 /\ abr (a.take 1) = true:=by
     have h9:=ht37
     by_cases h:m = 1
     ·rw [h] at h9; exact ⟨h,h9⟩
     ·rw [show aaa .eql (m:Int) 1 = false by simp [aaa]; omega] at h9; cases h9
    obtain ⟨rfl,h3⟩:=h2;refine gR ?_;exact aef (by rw [a6t hm h3]; exact Sub.nil _ _ _)
   ·have h2:m = 1 -> abr (a.take 1) = false:=by
     intro h;have h9:=ht37;rw [h] at h9; exact h9
    have h3:=a7k hm h1 h2;refine gs (acp T46 rfl T29 rfl rfl rfl) ?_;refine gs (aao (.tmp rfl) (.none _) (.some _ (.tmp rfl) (by omega)) T46 rfl T29 rfl (by omega) (by have:=hm.le; simp; omega) rfl) ?_;refine gs (age (.tmp rfl) rfl rfl (.tmp rfl) T46 rfl T29 rfl rfl (by simp only [length_take,List.length_drop,length_map]; omega) rfl rfl) ?_;refine gE1 ?_;rw [h3];simp [nA,map_take]
theorem akr (d:Nat) (hd:Nat.blt d 1000 = true) (a:List Rat) (n:Nat) (hl:a.length <= n) (hn:n <= 1099511627776) :
  Con prog 216 [nA a,i64 n] [] (.ms d 3 0 n) [(d,some (.row 3 ((aaw a n).map qA)))]:=by
 refine gF func216 (fun k z h=>by cases h) ?_;refine gs (acp T46 rfl T29 rfl rfl rfl) ?_;refine gs (aa5 (.tmp rfl) rfl rfl (.tmp rfl) T46 rfl T29 rfl rfl (by simp only [length_map]; omega) rfl rfl) ?_;refine gW (Wk.of (sl:=[(1,some (i64 n)),(5,some (.ms 8 3 0 a.length))]) (hp:=[(8,some (.row 3 ((aaw a a.length).map qA)))]) (.k (.cons rfl (Sub.of (by simp)) .nil)) (.cons rfl (BlkSub.of (by simp [aaw])) .nil)) ?_ (99999,0);refine gW (Wk.rekey (k:=8) (d:=900) rfl rfl) ?_;refine gL1 [1] [] (fun (i:Nat)=>[(5,some (.ms 900 3 0 i))]) (fun i=>[(900,some (.row 3 ((aaw a i).map qA)))]) (fun i=>a.length <= i /\ i <= n) (fun i=>n - i) a.length ⟨le_refl _,hl⟩ ?_;rintro i ⟨hi,hin⟩ K1 hK1;refine gC (fun ht12=>?_) (fun ht12=>?_)
 ·have h1 : i < n := by have := ht12; simp only [aaa, decide_eq_true_eq] at this; omega
  refine gs (aa5 (.tmp rfl) rfl (by rw [length_map,abf hi]) (.tmp rfl) T46 rfl T29 rfl rfl (by simp; omega) rfl rfl) ?_;exact gK1 hK1 (i + 1) ⟨by omega,h1⟩ (hw:=(Wk.of (sl:=[(1,some (i64 n)),(5,some (.ms 16 3 0 (i + 1)))]) (hp:=[(16,some (.row 3 ((aaw a (i + 1)).map qA)))]) abj (.cons rfl (bbz a i hi) .nil)).trans <| (Wk.rekey (k:=16) (d:=900) rfl rfl).trans <| Wk.o)
 ·have h1 : i = n := by have := ht12; simp only [aaa, decide_eq_false_iff_not] at this; omega
  subst h1;refine gR ?_;exact Fin.own1 rfl hd rfl
theorem ahi (a:List Rat) (n:Nat) (hl:a.length <= n) (hn:n <= 1099511627776):FnC prog 216 [nA a, i64 n] (nA (aaw a n)):=by
 have h:=Con.freeze (by rw [length_map,abf hl]; omega) (akr 0 rfl a n hl hn);rw [drop_zero,take_of_length_le (by rw [length_map,abf hl]; exact le_refl _)] at h;exact h
theorem ajt (a b:List Rat) (ha:∀ q ∈ a, Qs q) (hb:∀ q ∈ b, Qs q) (la:a.length <= 1099511627776) (lb:b.length <= 1099511627776):FnC prog 153 [nA a, nA b] (nA (ac4 a b)):=by
 obtain ⟨n,hn⟩:∃ n,n = max a.length b.length:=⟨_,rfl⟩
 have hwa:=abf (show a.length <= n by omega);have hwb:=abf (show b.length <= n by omega);have hp:=abl (a:=a) (b:=b);rw [<- hn] at hp;have qa:∀ q ∈ aaw a n,Qs q:=fun q hq=>by rcases List.mem_append.1 hq with h | h; exact ha q h; (rw [(List.mem_replicate.1 h).2]; exact Qs.zero)
 have qb:∀ q ∈ aaw b n,Qs q:=fun q hq=>by rcases List.mem_append.1 hq with h | h; exact hb q h; (rw [(List.mem_replicate.1 h).2]; exact Qs.zero)
 refine gF0 func153 ?_;refine gl ?_;refine gl ?_;refine gs (a31 (.tmp rfl) (.tmp rfl) rfl) ?_ (2,0);refine gW (Wk.of (sl:=[(0,some (nA a)),(1,some (nA b)),(5,some (i64 n))]) (hp:=[]) (.cons rfl (.refl _) (.cons rfl (.refl _) (.cons rfl (Sub.int (by omega)) .nil))) .nil) ?_;refine go ?_;refine gt (aad (akr 900 rfl a n (by omega) (by omega)) (.cons (.tmp rfl) (.cons (.tmp rfl) .nil)) (by first | exact hH0 | exact hH1 rfl | exact hH2 rfl rfl) rfl rfl) ?_;refine gc (ahi b n (by omega) (by omega)) ?_;refine gL1 [1,19] [] (fun (i:Nat)=>[(0,some (.ms 900 3 0 n)),(20,some (i64 i))]) (fun i=>[(900,some (.row 3 (((ac4 a b).take i ++ (aaw a n).drop i).map qA)))]) (fun i=>i <= n) (fun i=>n - i) 0 (zero_le _) ?_;rintro i hi K1 hK1;refine gC (fun ht21=>?_) (fun ht21=>?_) (st2:=(8,0))
 ·have hin : i < n := by simpa [aaa] using ht21
  have hmx:=axb (p:=ac4 a b) (w:=aaw a n) (i:=i) (by omega) (by omega);have hqa:=(qa _ (ald (i:=i) (by omega))).ok;have hqb:=(qb _ (ald (i:=i) (by omega))).ok;refine gs (aar (n:=i) (.tmp rfl) (.tmp rfl) T46 rfl T29 rfl (by omega) (by omega) rfl) ?_;refine gs (aae (.tmp rfl) rfl (aai hmx) T29 rfl rfl rfl) ?_;refine gi (aai (getD_some (i:=i) (l:=aaw b n) (by omega))) ?_;refine gc (av0 (rt ((aaw a n).getD i 0)) (rt ((aaw b n).getD i 0)) hqa hqb) ?_;refine gs (aar (n:=i) (.tmp rfl) (.tmp rfl) T46 rfl T29 rfl (by omega) (by omega) rfl) ?_;refine gs (aa2 (.tmp rfl) rfl (aai hmx) rfl (.tmp rfl) rfl rfl T29 rfl rfl) ?_;refine gD ?_ (7,0);refine gW (Wk.of (sl:=[(0,some (.ms 900 3 0 n)),(1,some (nA (aaw b n))),(19,some (i64 n)),(20,some (i64 i))]) (hp:=[(900,some (.row 3 (((ac4 a b).take (i + 1) ++ (aaw a n).drop (i + 1)).map qA)))]) abj (.cons rfl (BlkSub.of (by rw [asq (by omega) (by omega) (by rw [a0w,<- hn,ahn,ahn])])) .nil)) ?_;refine ga aa0 ?_;exact gK1 hK1 (i + 1) hin
 ·have hin : i = n := by have : n <= i := (by simpa [aaa] using ht21); omega
  refine gW ((Wk.freeze (k:=900) rfl).trans <| Wk.of (sl:=[(0,some (nA (ac4 a b)))]) (hp:=[]) (.cons rfl (Sub.of (by rw [abu (by simp; omega),hin,List.drop_of_length_le (by omega),take_of_length_le (by omega),List.append_nil]; rfl)) .nil) .nil) ?_;refine gE1 ?_;rfl
theorem arh (a:List Rat) (ha:∀ q ∈ a, Qs q) (hl:a.length <= 1099511627776):FnC prog 154 [nA a] (nA (ab8 a)):=by
 refine gF0 func154 ?_;refine gl ?_;refine gW (Wk.virt 900 3 rfl) ?_;refine gL1 [6,7] [] (fun (i:Nat)=>[(3,some (.ms 900 3 0 i)),(8,some (i64 i))]) (fun i=>[(900,some (.row 3 ((ab8 (a.take i)).map qA)))]) (fun i=>i <= a.length) (fun i=>a.length - i) 0 (zero_le _) ?_;rintro i hi K1 hK1;refine gC (fun ht9=>?_) (fun ht9=>?_) (st2:=(7,0))
 ·have hin : i < a.length := by simpa [aaa] using ht9
  obtain ⟨q,hq⟩:=acj hin;have hqs:=(ha q (mem_of_getElem? hq)).ok;refine gi (aai hq) ?_;refine gc (a4r (rt q) hqs) ?_;refine gs (aa5 (.tmp rfl) rfl (by simp [ab8]; omega) (.tmp rfl) T46 rfl T29 rfl rfl (by simp; omega) rfl rfl) ?_ (6,0);refine gW (Wk.of (sl:=[(3,some (.ms 16 3 0 (i + 1))),(6,some (nA a)),(7,some (i64 a.length)),(8,some (i64 i))]) (hp:=[(16,some (.row 3 ((ab8 (a.take (i + 1))).map qA)))]) abj (.cons rfl (BlkSub.of (by rw [aap hq]; simp only [ab8,map_append,ahn]; rfl)) .nil)) ?_ (6,0);refine gW (Wk.rekey (k:=16) (d:=900) rfl rfl) ?_;refine ga aa0 ?_;exact gK1 hK1 (i + 1) hin
 ·have hin : i = a.length := by have : a.length <= i := (by simpa [aaa] using ht9); omega
  subst hin;refine gW ((Wk.freeze (k:=900) rfl).trans <| Wk.of (sl:=[(3,some (nA (ab8 a)))]) (hp:=[]) (.cons rfl (Sub.of (by rw [abu (by simp [ab8]),take_length]; rfl)) .nil) .nil) ?_;refine gE1 ?_;rfl
end Go.Lw
namespace Go.Lw
open Go.Proofs
theorem ak2 (ts:List (List Rat)) (m r:Nat) (ht:axu ts m r) (hm:m <= 5) (R:List AV) (hR:∀ j, j < m -> R[j]? = some (nA (ts.getD j []))) (k:Nat):∀ (j:Nat) (a b:List Rat) (e f:Nat), j <= m -> j <= k -> Nl j a -> Nl j b -> Cb e a -> Cb f b -> e + f + eB r j < 4398046511104 ->
  FnC prog 282 [.agg [.lst 1 R],nA a,nA b] (nA (rT ts k a b)):=by
 induction k using Nat.strongRecOn
 rename_i k ih;intro j a b e f hj hjk ha hb ca cb hs;obtain ⟨nx,dx⟩:=aoe ha (by omega);obtain ⟨ny,dy⟩:=aoe hb (by omega);have cx:Cb e (aas 5 a):=ca.sub (fun q hq=>ahk 5 hq);have cy:Cb f (aas 5 b):=cb.sub (fun q hq=>ahk 5 hq);have k1:=akx a (by omega) ha;have k2:=akx b (by omega) hb;rw [<- ai0 ha (by omega)] at k1;rw [<- ai0 hb (by omega)] at k2;obtain ⟨x,hx⟩:∃ x,x = aas 5 a:=⟨_,rfl⟩
 obtain ⟨y,hy⟩:∃ y,y = aas 5 b:=⟨_,rfl⟩
 rw [<- hx] at k1 nx dx cx;rw [<- hy] at k2 ny dy cy;have hlx:=nx.len5 (by omega);have hly:=ny.len5 (by omega);obtain ⟨n,hn⟩:∃ n,n = max x.length y.length:=⟨_,rfl⟩
 refine gF0 func282 ?_;refine gc k1 ?_;refine gc k2 ?_;refine gl ?_;refine gl ?_;refine gs (a31 (.tmp rfl) (.tmp rfl) rfl) ?_ (3,0);refine gW (Wk.of (sl:=[(1,some (nA x)),(2,some (nA y)),(3,some (.ptr 3 0)),(7,some (i64 n))]) (hp:=[(3,some (.box [.lst 1 R]))]) (.k (.k (.k (.cons rfl (Sub.int (by omega)) .nil)))) (.cons rfl (.refl _) .nil)) ?_;refine gl ?_;refine glG ?_;refine gC (fun ht32=>?_) (fun ht32=>?_)
 ·have h0 : x.length = 0 \/ y.length = 0 := by have := ayc ht32; omega
  refine gR ?_;exact aef (by rw [a8y (by rw [<- hx,<- hy]; exact h0)]; exact Sub.nil _ _ _)
 ·have h0 : ¬ (x.length = 0 \/ y.length = 0) := by have := ask ht32; omega
  refine gC (fun ht34=>?_) (fun ht34=>?_)
  ·have h1 : max x.length y.length = 1 := by have := ht34; simp only [aaa, beq_iff_eq] at this; omega
   have e1:=beg (ts:=ts) (k:=k) (a:=a) (b:=b) (by rw [<- hx,<- hy]; exact h0) (by rw [<- hx,<- hy]; exact h1);rw [<- hx,<- hy] at e1;clear hx hy;have lx1:x.length = 1:=by omega
   have ly1:y.length = 1:=by omega
   clear hn;obtain ⟨p,rfl⟩:∃ p,x = [p]:=List.length_eq_one_iff.1 lx1;obtain ⟨q,rfl⟩:∃ q,y = [q]:=List.length_eq_one_iff.1 ly1;refine gi rfl ?_;refine gi rfl ?_;refine gc (a9c (rt p) (rt q) (cx.qs (by omega) (by simp:p ∈ [p])).ok (cy.qs (by omega) (by simp:q ∈ [q])).ok) ?_;refine gD ?_;refine gE1 ?_;rw [e1,ahn,ahn]; rfl
  ·have h1 : n ≠ 1 := by have := ht34; simp only [aaa, beq_eq_false_iff_ne, ne_eq] at this; omega
   obtain ⟨i,hij,hmax⟩:=(bed nx ny h0).resolve_left (by omega);obtain ⟨k',rfl⟩:∃ k',k = k' + 1:=⟨k - 1,by omega⟩
   have hp2:=Nat.two_pow_pos i;have hpi:2 ^ i <= 32:=aa1 (b:=5) (by omega);have hps:2 ^ (i + 1) = 2 * 2 ^ i:=by rw [Nat.pow_succ]; omega
   have hnn:n = 2 ^ (i + 1):=by omega
   have hes:eB r (i + 1) <= eB r j:=aw3 r hij;have hee:eB r (i + 1) = 2 * eB r i + r + 2:=rfl;have lx:(aaw x (2 ^ (i + 1))).length = 2 ^ (i + 1):=abf (by omega);have ly:(aaw y (2 ^ (i + 1))).length = 2 ^ (i + 1):=abf (by omega);obtain ⟨X,hX⟩:∃ X,X = aaw x (2 ^ (i + 1)):=⟨_,rfl⟩
   obtain ⟨Y,hY⟩:∃ Y,Y = aaw y (2 ^ (i + 1)):=⟨_,rfl⟩
   have cX:Cb e X:=by rw [hX]; exact cx.wide
   have cY:Cb f Y:=by rw [hY]; exact cy.wide
   rw [<- hX] at lx;rw [<- hY] at ly;have n1:Nl i (X.take (2 ^ i)):=.inr ⟨i,le_refl _,ada lx⟩;have n2:Nl i (X.drop (2 ^ i)):=.inr ⟨i,le_refl _,adh lx⟩;have n3:Nl i (Y.take (2 ^ i)):=.inr ⟨i,le_refl _,ada ly⟩;have n4:Nl i (Y.drop (2 ^ i)):=.inr ⟨i,le_refl _,adh ly⟩;have nd:=ht.1 i (by omega);have cd:=ht.2.cb i;have s1:=af9 hm ht (k:=k') (show i <= m by omega) (by omega) n1 n3 cX.take cY.take;have s2:=af9 hm ht (k:=k') (show i <= m by omega) (by omega) n2 n4 cX.drop cY.drop;have s3:=af9 hm ht (k:=k') (show i <= m by omega) (by omega) s2.1 nd s2.2.2 cd;have s4:=af9 hm ht (k:=k') (show i <= m by omega) (by omega) n1 n4 cX.take cY.drop;have s5:=af9 hm ht (k:=k') (show i <= m by omega) (by omega) n2 n3 cX.drop cY.take;have hrt:=a4w (ts:=ts) (k:=k') (a:=a) (b:=b) rfl (by rw [<- hx,<- hy]; exact h0) (by rw [<- hx,<- hy]; exact hmax);rw [<- hx,<- hy,<- hX,<- hY] at hrt;have w1:=ahi x n (by omega) (by omega);have w2:=ahi y n (by omega) (by omega);rw [hnn,<- hX] at w1;rw [hnn,<- hY] at w2;rw [<- hnn] at w1 w2;have pw:=agc n (by omega);rw [show pwk n = i + 1 by rw [hnn]; exact (atn (by omega)).1,show pwb n = true by rw [hnn]; exact (atn (by omega)).2] at pw;refine gc w1 ?_;refine gc w2 ?_;refine gc pw ?_;refine gs (ad0 (.tmp rfl) (.const _) (by omega) (show _ = ((2 ^ i:Nat):Int) by rw [acd (by omega),hnn,ab2]) rfl) ?_;refine gs (aao (.tmp rfl) (.none _) (.some _ (.tmp rfl) (by omega)) T46 rfl T29 rfl (by omega) (by simp only [length_map]; omega) rfl) ?_;refine gs (ad0 (.tmp rfl) (.const _) (by omega) (show _ = ((2 ^ i:Nat):Int) by rw [acd (by omega),hnn,ab2]) rfl) ?_;refine gs (aao (.tmp rfl) (.some _ (.tmp rfl) (by omega)) (.none _) T46 rfl T29 rfl (by simp only [length_map]; omega) (by omega) rfl) ?_;refine gs (ad0 (.tmp rfl) (.const _) (by omega) (show _ = ((2 ^ i:Nat):Int) by rw [acd (by omega),hnn,ab2]) rfl) ?_;refine gs (aao (.tmp rfl) (.none _) (.some _ (.tmp rfl) (by omega)) T46 rfl T29 rfl (by omega) (by simp only [length_map]; omega) rfl) ?_;refine gs (ad0 (.tmp rfl) (.const _) (by omega) (show _ = ((2 ^ i:Nat):Int) by rw [acd (by omega),hnn,ab2]) rfl) ?_;refine gs (aao (.tmp rfl) (.some _ (.tmp rfl) (by omega)) (.none _) T46 rfl T29 rfl (by simp only [length_map]; omega) (by omega) rfl) ?_;refine gD ?_ (10,0);refine gW (Wk.of (sl:=[(3,some (.ptr 3 0)),(7,some (i64 n)),(8,some (i64 ((i + 1:Nat):Int))),(10,some (nA (X.take (2 ^ i)))),(11,some (nA (X.drop (2 ^ i)))),(12,some (nA (Y.take (2 ^ i)))),(13,some (nA (Y.drop (2 ^ i))))]) (hp:=[(3,some (.box [.lst 1 R]))]) (.k (.k (.k (.cons rfl (Sub.of (agx X (2 ^ i))) (.cons rfl (Sub.of (af2 X (2 ^ i))) (.cons rfl (Sub.of (agx Y (2 ^ i))) (.cons rfl (Sub.of (af2 Y (2 ^ i))) .nil))))))) (.cons rfl (.refl _) .nil)) ?_
   refine gc (ih k' (by omega) i _ _ e f (by omega) (by omega) n1 n3 cX.take cY.take (by omega)) ?_;refine gc (ih k' (by omega) i _ _ e f (by omega) (by omega) n2 n4 cX.drop cY.drop (by omega)) ?_;refine ga (show _ = (i:Int) by rw [abd (by omega)]; omega) ?_;refine gi (hR i (by omega)) ?_;refine gc (ih k' (by omega) i _ _ _ _ (by omega) (by omega) s2.1 nd s2.2.2 cd (by omega)) ?_;refine gc (ajt _ _ (fun q hq=>s1.2.2.qs (by omega) hq) (fun q hq=>s3.2.2.qs (by omega) hq) (by have:=s1.1.le; omega) (by have:=s3.1.le; omega)) ?_;refine gD ?_;refine gc (ih k' (by omega) i _ _ e f (by omega) (by omega) n1 n4 cX.take cY.drop (by omega)) ?_;refine gc (ih k' (by omega) i _ _ e f (by omega) (by omega) n2 n3 cX.drop cY.take (by omega)) ?_;refine gc (ajt _ _ (fun q hq=>s4.2.2.qs (by omega) hq) (fun q hq=>s5.2.2.qs (by omega) hq) (by have:=s4.1.le; omega) (by have:=s5.1.le; omega)) ?_;refine gD ?_;refine gs (ad0 (.tmp rfl) (.const _) (by omega) (show _ = ((2 ^ i:Nat):Int) by rw [acd (by omega),hnn,ab2]) rfl) ?_;refine gt (aad (akr 900 rfl _ (2 ^ i) (by have:=s1.1.le; have:=s3.1.le; rw [abl]; omega) (by omega)) (.cons (.tmp rfl) (.cons (.tmp rfl) .nil)) (by first | exact hH0 | exact hH1 rfl | exact hH2 rfl rfl) rfl rfl) ?_;refine gs (ad0 (.tmp rfl) (.const _) (by omega) (show _ = ((2 ^ i:Nat):Int) by rw [acd (by omega),hnn,ab2]) rfl) ?_;refine gc (ahi _ (2 ^ i) (by have:=s4.1.le; have:=s5.1.le; rw [abl]; omega) (by omega)) ?_;refine gs (age (.tmp rfl) rfl (by have:=s1.1.le; have:=s3.1.le; rw [length_map,abf (by rw [abl]; omega)]) (.tmp rfl) T46 rfl T29 rfl rfl (by have:=s4.1.le; have:=s5.1.le; rw [length_map,abf (by rw [abl]; omega)]; show (2 ^ i + 2 ^ i) * 56 <= 140737488355328; omega) rfl rfl) ?_;refine gE1 ?_;rw [hrt,<- map_append]; rfl
theorem a20 (ts:List (List Rat)) (m r:Nat) (ht:axu ts m r) (hm:m <= 5) (R:List AV) (hR:∀ j, j < m -> R[j]? = some (nA (ts.getD j []))) (i n:Nat) (a:List Rat) (e:Nat) (hi:i + 1 <= m) (hnn:n = 2 ^ (i + 1)) (hal:a.length = 2 ^ (i + 1)) (ca:Cb e a) (hs:4 * e + 3 * eB r i + r + 1 < 4398046511104) :
  FnC prog 239 [.agg [.lst 1 R],nA a,i64 n] (nA (aqs ts i a)):=by
 have hp2:=Nat.two_pow_pos i;have hpi:2 ^ i <= 32:=aa1 (b:=5) (by omega);have hps:2 ^ (i + 1) = 2 * 2 ^ i:=by rw [Nat.pow_succ]; omega
 have n1:Nl i (a.take (2 ^ i)):=.inr ⟨i,le_refl _,ada hal⟩;have n2:Nl i (a.drop (2 ^ i)):=.inr ⟨i,le_refl _,adh hal⟩;have nd:=ht.1 i (by omega);have cd:=ht.2.cb i;have s1:=af9 hm ht (k:=i) (show i <= m by omega) (by omega) n1 n1 ca.take ca.take;have s2:=af9 hm ht (k:=i) (show i <= m by omega) (by omega) n2 n2 ca.drop ca.drop;have s3:=af9 hm ht (k:=i) (show i <= m by omega) (by omega) s2.1 nd s2.2.2 cd;have w1:=ahi a n (by omega) (by omega);rw [show aaw a n = a by unfold aaw; rw [hnn,hal]; simp] at w1;have pw:=agc n (by omega);rw [show pwk n = i + 1 by rw [hnn]; exact (atn (by omega)).1,show pwb n = true by rw [hnn]; exact (atn (by omega)).2] at pw;refine gF0 func239 ?_;refine gc w1 ?_;refine gc pw ?_;refine gs (ad0 (.tmp rfl) (.const _) (by omega) (show _ = ((2 ^ i:Nat):Int) by rw [acd (by omega),hnn,ab2]) rfl) ?_;refine gs (aao (.tmp rfl) (.none _) (.some _ (.tmp rfl) (by omega)) T46 rfl T29 rfl (by omega) (by simp only [length_map]; omega) rfl) ?_;refine gs (ad0 (.tmp rfl) (.const _) (by omega) (show _ = ((2 ^ i:Nat):Int) by rw [acd (by omega),hnn,ab2]) rfl) ?_;refine gs (aao (.tmp rfl) (.some _ (.tmp rfl) (by omega)) (.none _) T46 rfl T29 rfl (by simp only [length_map]; omega) (by omega) rfl) ?_;refine gD ?_ (4,0);refine gW (Wk.of (sl:=[(3,some (.ptr 3 0)),(7,some (i64 ((i + 1:Nat):Int))),(9,some (nA (a.take (2 ^ i)))),(10,some (nA (a.drop (2 ^ i))))]) (hp:=[(3,some (.box [.lst 1 R]))]) (.k (.k (.cons rfl (Sub.of (agx a (2 ^ i))) (.cons rfl (Sub.of (af2 a (2 ^ i))) .nil)))) (.cons rfl (.refl _) .nil)) ?_;refine gc (ak2 ts m r ht hm R hR i i _ _ e e (by omega) (by omega) n1 n1 ca.take ca.take (by omega)) ?_;refine gc (ak2 ts m r ht hm R hR i i _ _ e e (by omega) (by omega) n2 n2 ca.drop ca.drop (by omega)) ?_;refine ga (show _ = (i:Int) by rw [abd (by omega)]; omega) ?_;refine gi (hR i (by omega)) ?_;refine gc (ak2 ts m r ht hm R hR i i _ _ _ _ (by omega) (by omega) s2.1 nd s2.2.2 cd (by omega)) ?_;refine gc (arh _ (fun q hq=>s3.2.2.qs (by omega) hq) (by have:=s3.1.le; omega)) ?_;refine gc (ajt _ _ (fun q hq=>s1.2.2.qs (by omega) hq) (fun q hq=>s3.2.2.minus.qs (by omega) hq) (by have:=s1.1.le; omega) (by have:=s3.1.le; rw [acx]; omega)) ?_;refine gD ?_;refine gE1 ?_;rfl
theorem ary (ts:List (List Rat)) (m r:Nat) (ht:axu ts m r) (hm:m <= 5) (hpos:∀ j, j < m -> 0 <= T.sgn (aaj ts) j (aaj ts j)) (R:List AV) (hR:∀ j, j < m -> R[j]? = some (nA (ts.getD j []))) (j:Nat):∀ (a:List Rat) (e:Nat), j <= m -> Nl j a -> Cb e a -> sB r j e < 4398046511104 ->
  FnC prog 152 [.agg [.lst 1 R],nA a] (i64 (T.sgn (aaj ts) j (dec j a))):=by
 induction j using Nat.strongRecOn
 rename_i j ih;intro a e hj ha ca hs;have hse:=ayd r j e;obtain ⟨s,hsa⟩:∃ s,s = sh j (dec j a):=⟨_,rfl⟩
 have hsd:dec j s = dec j a:=by rw [hsa,abk]
 have hsn:Nl j s:=by rw [hsa]; exact aip j _
 have cs:Cb e s:=by rw [hsa]; exact ca.sh ha
 have hls:=hsn.len5 (by omega);rw [<- hsd];refine gF0 func152 ?_;refine gc (hsa ▸ akx a (by omega) ha) ?_;refine gl ?_;refine gC (fun ht15=>?_) (fun ht15=>?_)
 ·have h1 : s = [] := List.length_eq_zero_iff.1 (by have := ht15; simp only [aaa, beq_iff_eq] at this; omega);refine gE1 ?_;rw [h1,afa,T.sgn_zero]; rfl
 ·have h1 : s.length ≠ 0 := by have := ht15; simp only [aaa, beq_eq_false_iff_ne, ne_eq] at this; omega
  refine gl ?_;refine gC (fun ht19=>?_) (fun ht19=>?_)
  ·have h2 : s.length = 1 := by have := ht19; simp only [aaa, beq_iff_eq] at this; omega
   obtain ⟨q,rfl⟩:=List.length_eq_one_iff.1 h2;refine gi rfl ?_;refine gc (art (rt q) (cs.qs (by omega) (by simp:q ∈ [q])).ok) ?_;refine gE1 ?_;rw [air,T.sgn_ofQ,ahn]
  ·have h2 : s.length ≠ 1 := by have := ht19; simp only [aaa, beq_eq_false_iff_ne, ne_eq] at this; omega
   obtain ⟨i, hij, hsl⟩:∃ i, i + 1 <= j /\ s.length = 2 ^ (i + 1):=by
    rcases ahw hsn with h | h | h
    ·exact absurd h h1
    ·exact absurd h h2
    ·exact h
   have hp2:=Nat.two_pow_pos i;have hpi:2 ^ i <= 32:=aa1 (b:=5) (by omega);have hps:2 ^ (i + 1) = 2 * 2 ^ i:=by rw [Nat.pow_succ]; omega
   have n1:Nl i (s.take (2 ^ i)):=.inr ⟨i,le_refl _,ada hsl⟩;have n2:Nl i (s.drop (2 ^ i)):=.inr ⟨i,le_refl _,adh hsl⟩;have nd:=ht.1 i (by omega);have cd:=ht.2.cb i;obtain ⟨nn,dn,cn⟩:=aze hm ht (by omega) hsl cs;have b1:sB r i (4 * e + 3 * eB r i + r + 1) <= sB r j e:=av8 r e hij;have b2:sB r i e <= sB r i (4 * e + 3 * eB r i + r + 1):=ak5 r i (by omega);have b3:sB r i r <= sB r i (4 * e + 3 * eB r i + r + 1):=ak5 r i (by omega);have b4:=ayd r i (4 * e + 3 * eB r i + r + 1);have k1:=ih i (by omega) (s.take (2 ^ i)) e (by omega) n1 cs.take (by omega);have k2:=ih i (by omega) (s.drop (2 ^ i)) e (by omega) n2 cs.drop (by omega);have k3:=ih i (by omega) _ r (by omega) nd cd (by omega);have k4:=ih i (by omega) _ _ (by omega) nn cn (by omega)
   have v3:T.sgn (aaj ts) i (dec i (ts.getD i [])) = 0 \/ T.sgn (aaj ts) i (dec i (ts.getD i [])) = 1:=by
    have h9:0 <= T.sgn (aaj ts) i (dec i (ts.getD i [])):=hpos i (by omega);have:=T.sgn_cases (aaj ts) i (dec i (ts.getD i []));omega
   have hres:T.sgn (aaj ts) j (dec j s) = T.sgn3 (T.sgn (aaj ts) i (dec i (s.take (2 ^ i)))) (T.sgn (aaj ts) i (dec i (s.drop (2 ^ i)))) (T.sgn (aaj ts) i (dec i (ts.getD i []))) (T.sgn (aaj ts) i (dec i (aqs ts i s))):=by
    rw [ao8 _ (by omega) hij,dn]; rfl
   rw [bda v3] at hres;have v1:=T.sgn_cases (aaj ts) i (dec i (s.take (2 ^ i)));have v2:=T.sgn_cases (aaj ts) i (dec i (s.drop (2 ^ i)));have v4:=T.sgn_cases (aaj ts) i (dec i (aqs ts i s));have pw:=agc s.length (by omega);rw [show pwk s.length = i + 1 by rw [hsl]; exact (atn (by omega)).1,show pwb s.length = true by rw [hsl]; exact (atn (by omega)).2] at pw;refine gc pw ?_;refine ga (show _ = (i:Int) by rw [abd (by omega)]; omega) ?_;refine gi (hR i (by omega)) ?_;refine gs (ad0 (.tmp rfl) (.const _) (by omega) (show _ = ((2 ^ i:Nat):Int) by rw [acd (by omega),hsl,ab2]) rfl) ?_;refine gs (aao (.tmp rfl) (.none _) (.some _ (.tmp rfl) (by omega)) T46 rfl T29 rfl (by omega) (by simp only [length_map]; omega) rfl) ?_;refine gc (by have h9:=k1; rw [<- agx] at h9; exact h9) ?_;refine gs (ad0 (.tmp rfl) (.const _) (by omega) (show _ = ((2 ^ i:Nat):Int) by rw [acd (by omega),hsl,ab2]) rfl) ?_;refine gs (aao (.tmp rfl) (.some _ (.tmp rfl) (by omega)) (.none _) T46 rfl T29 rfl (by simp only [length_map]; omega) (by omega) rfl) ?_;refine gc (by have h9:=k2; rw [<- af2] at h9; exact h9) ?_;refine gc k3 ?_;refine ga (aqr v2 (.inr v3)) ?_;refine gD ?_;refine gC (fun ht57=>?_) (fun ht57=>?_)
   ·have e2:=ayc ht57;refine gE1 ?_;rw [hres,if_pos e2]
   ·have e2:=ask ht57;refine gC (fun ht60=>?_) (fun ht60=>?_)
    ·have e3 : T.sgn (aaj ts) i (dec i (s.take (2 ^ i))) = 0 := by simpa [aaa] using ht60
     refine gE1 ?_;rw [hres,if_neg e2,if_pos e3]; rfl
    ·have e3 : ¬ T.sgn (aaj ts) i (dec i (s.take (2 ^ i))) = 0 := by simpa [aaa] using ht60
     refine gc (a20 ts m r ht hm R hR i s.length s e (by omega) hsl hsl cs (by omega)) ?_;refine gc k4 ?_;refine ga (aqr v1 v4) ?_;refine gD ?_;refine gE1 ?_;rw [hres,if_neg e2,if_neg e3]; rfl
theorem ao5 (rs:List (List Rt)) (r:Nat) (h:TR rs r):FnC prog 123 [aj2 rs] (i64 (ae1 rs)):=by
 have hll:=h.ll;have hr:=h.le;refine gF0 func123 ?_;refine gl ?_;refine gC (fun ht9=>?_) (fun ht9=>?_)
 ·have h5 : 5 < rs.length := by have := ht9; simp only [aaa, decide_eq_true_eq] at this; omega
  refine gE1 ?_;rw [a0q h5]; rfl
 ·have h5 : rs.length <= 5 := by have := ht9; simp only [aaa, decide_eq_false_iff_not] at this; omega
  refine gl ?_;refine gL1 [1,11,12] [1] (fun (k:Nat)=>[(13,some (i64 k))]) (fun _=>[]) (fun k=>k <= rs.length /\ ∀ j,j < k -> azg rs j) (fun k=>rs.length - k) 0 ⟨zero_le _,fun j hj=>by omega⟩ ?_;rintro k ⟨hk,hj⟩ K1 hK1;refine gC (fun ht14=>?_) (fun ht14=>?_)
  ·have hin : k < rs.length := by simpa [aaa] using ht14
   obtain ⟨d,hd⟩:=acj hin;have hdm:=mem_of_getElem? hd;have hdl:=h.len d hdm;refine gi (aai hd) ?_;refine gl ?_;refine gs (afx (.const _) (.tmp rfl) (by omega) (ah8 (by omega)) rfl) ?_;refine gC (fun ht22=>?_) (fun ht22=>?_)
   ·have h1 : d.length ≠ 2 ^ k := by have := ht22; simp only [aaa, bne_iff_ne, ne_eq] at this; omega
    refine gE1 ?_;rw [a1w h5 hd hj h1]; rfl
   ·have h1 : d.length = 2 ^ k := by have := ht22; simp only [aaa, bne_eq_false_iff_eq] at this; omega
    have hnu:=anw k (by omega) d (h.ok d hdm) hdl;refine gc hnu ?_;refine gC (fun ht27=>?_) (fun ht27=>?_)
    ·have h2:=bbt ht27;refine gE1 ?_;rw [azr h5 hd hj h1 h2]
    ·have h2:=bb9 ht27;have hts:=auu (ts:=llq rs) (fun j hjk=>(hj j hjk).nl) h.rb;have hq:=asx h2 (h.ok d hdm);have hcb:Cb r (lq d):=by have:=h.rb.cb k; rw [al4,getD_eq_getElem?_getD,hd] at this; exact this
     have hsg:FnC prog 152 [aj2 rs, nR d] (i64 (T.sgn (aaj (llq rs)) k (dec k (lq d)))):=by
      have h9:=ary ((llq rs).take k) k r hts (by omega) (fun j hjk=>by rw [T.sgn_congr j (fun i hi=>af7 (show i < k by omega)),af7 hjk]; exact (hj j hjk).2.2) (rs.map nR) (fun j hjk=>bfl h.ok (show k <= rs.length by omega) hj hjk) k (lq d) r (le_refl _) hq.2 hcb (axd (le_refl k) (by have:=h.three; omega) hr (by have:=ard k; omega));rw [T.sgn_congr k (fun j hjk=>af7 hjk)] at h9;rw [hq.1,ai7];rw [<- hq.1]; exact h9
     refine gc hsg ?_;refine gC (fun ht32=>?_) (fun ht32=>?_)
     ·have h3 : T.sgn (aaj (llq rs)) k (dec k (lq d)) < 0 := by simpa [aaa] using ht32
      refine gE1 ?_;rw [a09 h5 hd hj h1 h2 h3]; rfl
     ·have h3 : ¬ T.sgn (aaj (llq rs)) k (dec k (lq d)) < 0 := by simpa [aaa] using ht32
      refine ga aa0 ?_;exact gK1 hK1 (k + 1) ⟨hin,fun j hjk=>by rcases lt_or_ge j k with h9 | h9; exact hj j h9; (have:j = k:=by omega); subst this; exact a4u hd h1 h2 h3⟩
  ·have hin : k = rs.length := by have : rs.length <= k := (by simpa [aaa] using ht14); omega
   subst hin;refine gE1 ?_;rw [azx h5 hj]; rfl
theorem au2 (rs:List (List Rt)) (r:Nat) (h:TR rs r) (xs:List (List Rt)) (hx:∀ a ∈ xs, (∀ x ∈ a, x.ok) /\ a.length <= 281474976710656) (hl:xs.length <= 281474976710656):FnC prog 151 [aj2 rs, .lst 1 (xs.map nR)] (i64 (acb rs xs)):=by
 refine gF0 func151 ?_;refine gc (ao5 rs r h) ?_;refine gC (fun ht12=>?_) (fun ht12=>?_)
 ·have h1:=bbt ht12;refine gE1 ?_;rw [a2a h1]
 ·have h1:=bb9 ht12;have h5:rs.length <= 5:=by have:=(ac5 h h1).1.five; rwa [length_map] at this
  refine gl ?_;refine gL1 [2,14,15] [2] (fun (i:Nat)=>[(16,some (i64 i))]) (fun _=>[]) (fun i=>i <= xs.length /\ ∀ x ∈ xs.take i,ahm rs.length x = 0) (fun i=>xs.length - i) 0 ⟨zero_le _,fun x hx=>by simp at hx⟩ ?_;rintro i ⟨hi,hj⟩ K1 hK1;refine gC (fun ht17=>?_) (fun ht17=>?_)
  ·have hin : i < xs.length := by simpa [aaa] using ht17
   obtain ⟨a,ha⟩:=acj hin;have hok:=hx a (mem_of_getElem? ha);refine gi (aai ha) ?_;refine gl ?_;refine gc (anw rs.length h5 a hok.1 hok.2) ?_;refine gC (fun ht26=>?_) (fun ht26=>?_)
   ·have h2:=bbt ht26;refine gE1 ?_;rw [ax8 h1 ha hj h2]
   ·have h2:=bb9 ht26;refine ga aa0 ?_;exact gK1 hK1 (i + 1) ⟨hin,fun x hx=>by rw [aap ha] at hx; rcases List.mem_append.1 hx with h9 | h9; exact hj x h9; (rw [List.mem_singleton.1 h9]; exact h2)⟩
  ·have hin : i = xs.length := by have : xs.length <= i := (by simpa [aaa] using ht17); omega
   subst hin;rw [take_length] at hj;refine gE1 ?_;rw [aqz h1 hj]; rfl
theorem a7c (rs:List (List Rt)) (r:Nat) (h:TR rs r) (a b:List Rt) (e f:Nat) (ha:NR a e) (hb:NR b f) (he:e + f + 1 <= lm rs.length) :
  FnC prog 68 [aj2 rs,nR a,nR b] (.tup [i64 (if acb rs [a,b] = 0 then T.sgn (aaj (llq rs)) rs.length (T.add rs.length (dec rs.length (lq a)) (T.neg rs.length (dec rs.length (lq b)))) else 0),i64 (acb rs [a,b])]):=by
 have hr:=h.le;have hlm:=aq5 rs.length;refine gF0 func68 ?_;refine gc (au2 rs r h [a,b] (avf ha hb) (by simp)) ?_;refine gC (fun ht15=>?_) (fun ht15=>?_) (st2:=(77777,0))
 ·have h1:=bbt ht15;refine gE2 ?_;rw [if_neg h1]; rfl
 ·have h1:=bb9 ht15;obtain ⟨h2,h3⟩:=ak7 h1;obtain ⟨tw,e0⟩:=ac5 h h2;obtain ⟨e1,na⟩:=ha.num (h3 a (by simp));obtain ⟨e2,nb⟩:=hb.num (h3 b (by simp));have hlen:(llq rs).length = rs.length:=length_map _;have h5:rs.length <= 5:=by have:=tw.five; omega
  have hla:=na.len5 h5;have hlb:=nb.len5 h5;have htw:=tw.ok;rw [hlen] at htw;have qa:∀ q ∈ lq a,Qs q:=fun q hq=>ha.cb.qs (by omega) hq
  have qb:∀ q ∈ lq b,Qs q:=fun q hq=>hb.cb.qs (by omega) hq
  have qm:∀ q ∈ ab8 (lq b),Qs q:=fun q hq=>hb.cb.minus.qs (by omega) hq
  have np:=amv na (ajl nb);have hsg:=ary (llq rs) rs.length r htw h5 (fun j hj=>tw.pos j (by omega)) ((llq rs).map nA) (fun j hj=>az1 (by omega)) rs.length _ _ (le_refl _) np (ha.cb.plus hb.cb.minus) (axd (le_refl rs.length) (by have:=tw.three; omega) hr (by omega));refine gW (Wk.of (sl:=[(1,some (nA (lq a))),(2,some (nA (lq b))),(3,some (.ptr 3 0)),(8,some (i64 (acb rs [a,b])))]) (hp:=[(3,some (.box [.lst 1 ((llq rs).map nA)]))]) (.cons rfl (Sub.of e1) (.cons rfl (Sub.of e2) (.k (.k .nil)))) (.cons rfl (BlkSub.boxL (.cons (.of (aiy e0)) .nil) rfl) .nil)) ?_;refine gc (arh _ qb (by omega)) ?_;refine gc (ajt _ _ qa qm (by omega) (by rw [acx]; omega)) ?_;refine gc hsg ?_;refine gD ?_;refine gE2 ?_;rw [if_pos h1,h1,ad9,afs]; rfl
theorem bag (x:Rt) (hx:x.ok) (hs:Qs x.q):FnC prog 35 [x.av] (nA (sh 0 (x.q:Rat))):=by
 have hadd:=av0 x (rt 0) hx Qs.zero.ok;rw [bbf] at hadd;refine gF0 func35 ?_;refine gc (art x hx) ?_;refine gC (fun ht5=>?_) (fun ht5=>?_)
 ·have h0 : x.q = 0 := agn (by simpa [aaa] using ht5);refine gR ?_;exact aef (by rw [h0]; exact Sub.nil _ _ _)
 ·have h0 : x.q ≠ 0 := fun h => by rw [h] at ht5; cases ht5
  refine gc (Con.subA (.cons (.refl _) (.cons aje .nil)) hadd) ?_;refine gE1 ?_;have:sh 0 (x.q:Rat) = [x.q]:=if_neg h0;rw [this]; rfl
end Go.Lw
namespace Go.Lw
open Go.Proofs
theorem ba3 {p q:Rat} (hp:Qs p) (hq:Qs q):FnC prog 172 [qA p, qA q] (qA (p + q)):=by
 have h:=adg (rt p) (rt q) hp.ok hq.ok;rw [ahn,ahn] at h;exact h
theorem a7f {p q:Rat} (hp:Qs p) (hq:Qs q):FnC prog 177 [qA p, qA q] (qA (p - q)):=by
 have h:=aq1 (rt p) (rt q) hp.ok hq.ok;rw [ahn,ahn] at h;exact h
theorem a34 {p q:Rat} (hp:Qs p) (hq:Qs q):FnC prog 236 [qA p, qA q] (qA (p * q)):=by
 have h:=aj8 (rt p) (rt q) hp.ok hq.ok;rw [ahn,ahn] at h;exact h
theorem bn3 {p q:Rat} (hp:Qs p) (hq:Qs q):FnC prog 309 [qA p, qA q] (.tup [qA (p / q), aik (if q = 0 then 8 else 0)]):=by
 have h:=akb (rt p) (rt q) hp.ok hq.ok;rw [ahn,ahn] at h;exact h
theorem bqd {p:Rat} (hp:Qs p):FnC prog 262 [qA p] (qA (-p)):=by
 have h:=agz (rt p) hp.ok;rw [ahn] at h;exact h
theorem bet {p:Rat} (hp:Qs p):FnC prog 175 [qA p] (i64 (af6 p)):=by
 have h:=aer (rt p) hp.ok;rw [ahn] at h;exact h
theorem ang (x:Tn) (hx:x.t.ok):FnC prog 166 [x.av] (aik x.err):=by
 refine gF0 func166 ?_;refine gc (aco x.t hx) ?_;refine gcG (fun _=>(aer x.t hx)) ?_;refine gC (fun ht16=>?_) (fun ht16=>?_)
 ·have h0:=Tn.err_yes ht16;refine gE1 ?_;rw [h0]; rfl
 ·have h0:=Tn.err_no ht16;refine gE1 ?_;rw [h0]; rfl
theorem aqk {p q:Rat} (hp:Qs p) (hq:Qs q):FnC prog 263 [qA p, qA q] (qA (p / q)):=by
 refine gF0 func263 ?_;refine gc (bn3 hp hq) ?_;refine gC (fun ht14=>?_) (fun ht14=>?_)
 ·have h0:q = 0:=by
   have:=aea ht14
   by_cases h:q = 0
   ·exact h
   ·rw [if_neg h] at this; exact absurd rfl this
  refine gR ?_;exact aef (by rw [h0,bce]; exact aje)
 ·refine gE1 ?_;rfl
theorem aij (half:Bool) {t:Rat} {e:Nat} (ht:Qb e t) (he:e <= 1000000):FnC prog 167 [Tn.av ⟨rt t, half⟩] (.tup [qA (ax5 half t), qA (axq half t)]):=by
 have qt:Qs t:=ht.qs (by omega);have m2:=ht.mul ht;have one:Qb 1 (((1:Int):Rat)):=Qb.one;have d:=one.add m2;refine gF0 func167 ?_;refine gC (fun ht8=>?_) (fun ht8=>?_)
 ·have h0:half = true:=ht8;refine gc (act (-1) (by omega)) ?_;refine gR ?_;exact adc (by subst h0; exact Sub.tup (.cons (.refl _) (.cons aje .nil)))
 ·have h0:half = false:=ht8;refine gc (act 1 (by omega)) ?_;refine gc (a34 qt qt) ?_;refine gD ?_;refine gc (ba3 (one.qs (by omega)) (m2.qs (by omega))) ?_;refine gc (a7f (one.qs (by omega)) (m2.qs (by omega))) ?_;refine gc (aqk ((one.sub m2).qs (by omega)) (d.qs (by omega))) ?_;refine gc (ba3 qt qt) ?_;refine gc (aqk ((ht.add ht).qs (by omega)) (d.qs (by omega))) ?_;refine gD ?_;refine gE2 ?_;subst h0; rfl
theorem arx (x:Tn) (hx:x.t.ok) {e:Nat} (hq:Qb e x.t.q) (he:e <= 1000000):FnC prog 74 [x.av] (.tup [qA (if x.err = 0 then ax5 x.half x.t.q else 0), aik x.err]):=by
 refine gF0 func74 ?_;refine gc (ang x hx) ?_;refine gC (fun ht10=>?_) (fun ht10=>?_)
 ·have h1:=aea ht10;refine gR ?_;exact adc (by rw [if_neg h1]; exact Sub.tup (.cons aje (.cons (.refl _) .nil)))
 ·have h1:=adu ht10;have hd:=aij x.half hq he;rw [<- Rt.eq_rt hx (Tn.ok_valid h1)] at hd;refine gc hd ?_;refine gE2 ?_;rw [if_pos h1,h1]; rfl
theorem a33 (x:Tn) (hx:x.t.ok) {e:Nat} (hq:Qb e x.t.q) (he:e <= 1000000):FnC prog 75 [x.av] (.tup [qA (if x.err = 0 then axq x.half x.t.q else 0), aik x.err]):=by
 refine gF0 func75 ?_;refine gc (ang x hx) ?_;refine gC (fun ht10=>?_) (fun ht10=>?_)
 ·have h1:=aea ht10;refine gR ?_;exact adc (by rw [if_neg h1]; exact Sub.tup (.cons aje (.cons (.refl _) .nil)))
 ·have h1:=adu ht10;have hd:=aij x.half hq he;rw [<- Rt.eq_rt hx (Tn.ok_valid h1)] at hd;refine gc hd ?_;refine gE2 ?_;rw [if_pos h1,h1]; rfl
end Go.Lw
namespace Go.Lw
open Go.Proofs
theorem a1x {ts:List (List Rat)} {r e f:Nat} (tw:Tw ts r) {a b:List Rat} (ha:Nm ts.length e a) (hb:Nm ts.length f b) (he:e + f <= lm ts.length) :
  FnC prog 274 [acm ts,nA a,nA b] (.tup [nA (sh ts.length (T.add ts.length (dec ts.length a) (dec ts.length b))),.v .nilIface]):=by
 have h:=ayp (ts.map (List.map rt)) r tw.tr (a.map rt) (b.map rt) e f (ha.rt (by omega)) (hb.rt (by omega)) (by rw [length_map]; exact he);have h0:acb (ts.map (List.map rt)) [a.map rt,b.map rt] = 0:=aov tw ha hb;rw [h0,if_pos rfl,agd,ai7,ai7,amw,amw,length_map] at h;exact h
theorem ani {ts:List (List Rat)} {r e f:Nat} (tw:Tw ts r) {a b:List Rat} (ha:Nm ts.length e a) (hb:Nm ts.length f b) (he:e + f <= lm ts.length) :
  FnC prog 147 [acm ts,nA a,nA b] (.tup [nA (sh ts.length (T.add ts.length (dec ts.length a) (T.neg ts.length (dec ts.length b)))),.v .nilIface]):=by
 have h:=ay3 (ts.map (List.map rt)) r tw.tr (a.map rt) (b.map rt) e f (ha.rt (by omega)) (hb.rt (by omega)) (by rw [length_map]; exact he);have h0:acb (ts.map (List.map rt)) [a.map rt,b.map rt] = 0:=aov tw ha hb;rw [h0,if_pos rfl,agd,ai7,ai7,amw,amw,length_map] at h;exact h
theorem a0m {ts:List (List Rat)} {r e f:Nat} (tw:Tw ts r) {a b:List Rat} (ha:Nm ts.length e a) (hb:Nm ts.length f b) (he:e + f <= lm ts.length) :
  FnC prog 148 [acm ts,nA a,nA b] (.tup [nA (sh ts.length (T.mul (aaj ts) ts.length (dec ts.length a) (dec ts.length b))),.v .nilIface]):=by
 have h:=azc (ts.map (List.map rt)) r tw.tr (a.map rt) (b.map rt) e f (ha.rt (by omega)) (hb.rt (by omega)) (by rw [length_map]; exact he);have h0:acb (ts.map (List.map rt)) [a.map rt,b.map rt] = 0:=aov tw ha hb;rw [h0,if_pos rfl,agd,ai7,ai7,avc,amw,amw,length_map] at h;exact h
theorem ayn {ts:List (List Rat)} {r e:Nat} (tw:Tw ts r) {a:List Rat} (ha:Nm ts.length e a) (he:e <= lm ts.length) :
  FnC prog 192 [acm ts,nA a] (.tup [i64 (T.sgn (aaj ts) ts.length (dec ts.length a)),.v .nilIface]):=by
 have h:=avn (ts.map (List.map rt)) r tw.tr (a.map rt) e (ha.rt he) (by rw [length_map]; exact he);have h0:acb (ts.map (List.map rt)) [a.map rt] = 0:=axk tw ha;rw [h0,if_pos rfl,agd,ai7,avc,amw,length_map] at h;exact h
theorem bl8 {ts:List (List Rat)} {r e f:Nat} (tw:Tw ts r) {a b:List Rat} (ha:Nm ts.length e a) (hb:Nm ts.length f b) (he:e + f + 1 <= lm ts.length) :
  FnC prog 68 [acm ts,nA a,nA b] (.tup [i64 (T.sgn (aaj ts) ts.length (T.add ts.length (dec ts.length a) (T.neg ts.length (dec ts.length b)))),i64 0]):=by
 have h:=a7c (ts.map (List.map rt)) r tw.tr (a.map rt) (b.map rt) e f (ha.rt (by omega)) (hb.rt (by omega)) (by rw [length_map]; exact he);have h0:acb (ts.map (List.map rt)) [a.map rt,b.map rt] = 0:=aov tw ha hb;rw [h0,if_pos rfl,agd,ai7,ai7,avc,amw,amw,length_map] at h;exact h
theorem a15 {ts:List (List Rat)} {r e:Nat} (tw:Tw ts r) {a:List Rat} (ha:Nm ts.length e a) (he:e <= lm ts.length) :
  FnC prog 73 [acm ts,nA a] (.tup [nA (sh ts.length (T.neg ts.length (dec ts.length a))),.v .nilIface]):=by
 have h:=ap6 (ts.map (List.map rt)) r tw.tr (a.map rt) e (ha.rt he) (by rw [length_map]; exact he);have h0:acb (ts.map (List.map rt)) [a.map rt] = 0:=axk tw ha;rw [h0,if_pos rfl,agd,ai7,amw,length_map] at h;exact h
theorem az9 {ts:List (List Rat)} {r:Nat} (tw:Tw ts r):FnC prog 70 [acm ts] (.v .nilIface):=by
 have h:=aes (ts.map (List.map rt)) r tw.tr;rw [tw.chk,agd] at h;exact h
theorem axv {q:Rat} (h:Qs q):FnC prog 134 [qA q] (nA (sh 0 (q:Rat))):=by
 have h1:=a23 (rt q) h.ok (by rw [ahn]; exact h);rw [ahn] at h1;exact h1
theorem bpi {q:Rat} (h:Qs q):FnC prog 35 [qA q] (nA (sh 0 (q:Rat))):=by
 have h1:=bag (rt q) h.ok (by rw [ahn]; exact h);rw [ahn] at h1;exact h1
theorem afz {ts:List (List Rat)} {r e:Nat} (tw:Tw ts r) (ls:List (List Rat)) (hl:∀ l ∈ ls, Nm ts.length e l) (he:e <= lm ts.length) (hn:ls.length <= 1000):FnC prog 196 [acm ts, .lst 1 (ls.map nA)] (.v .nilIface):=by
 refine gF0 func196 ?_;refine gc (az9 tw) ?_;refine gC (fun ht13=>?_) (fun ht13=>?_) (st1:=(3,0))
 ·cases ht13
 ·refine gl ?_;refine gL1 [2,15,16] [2] (fun (i:Nat)=>[(17,some (i64 i))]) (fun _=>[]) (fun i=>i <= ls.length) (fun i=>ls.length - i) 0 (zero_le _) ?_;rintro i hi K1 hK1;refine gC (fun ht18=>?_) (fun ht18=>?_)
  ·have hin : i < ls.length := by simpa [aaa] using ht18
   obtain ⟨l,hll⟩:=acj hin;have hok:=hl l (mem_of_getElem? hll);refine gi (aai hll) ?_;refine gc (a15 tw hok he) ?_;refine gC (fun ht28=>?_) (fun ht28=>?_) (st1:=(9,0))
   ·cases ht28
   ·refine ga aa0 ?_;exact gK1 hK1 (i + 1) hin
  ·have hin : i = ls.length := by have : ls.length <= i := (by simpa [aaa] using ht18); omega
   refine gE1 ?_
   first | rfl | (simp; done)
theorem ade {ts:List (List Rat)} {r e:Nat} (tw:Tw ts r) (ps:List (List Rat × List Rat)) (hl:∀ p ∈ ps, Nm ts.length e p.1 /\ Nm ts.length e p.2) (he:e <= lm ts.length) (hn:ps.length <= 500):FnC prog 142 [acm ts, .lst 2 (ps.map fun p=>ptA p.1 p.2)] (.v .nilIface):=by
 refine gF0 func142 ?_;refine gl ?_;refine gW (Wk.virt 900 1 rfl) ?_;refine gL1 [2,8,9] [2] (fun (i:Nat)=>[(5,some (.ms 900 1 0 (2 * i))),(10,some (i64 i))]) (fun i=>[(900,some (.row 1 ((alt (ps.take i)).map nA)))]) (fun i=>i <= ps.length) (fun i=>ps.length - i) 0 (zero_le _) ?_;rintro i hi K1 hK1;refine gC (fun ht11=>?_) (fun ht11=>?_) (st2:=(7,0))
 ·have hin : i < ps.length := by simpa [aaa] using ht11
  obtain ⟨p,hp⟩:=acj hin;have hfl:(alt (ps.take i)).length = 2 * i:=by rw [alf,length_take]; omega
  refine gi (aai hp) ?_;refine gs (aa5 (.tmp rfl) rfl (by rw [length_map,hfl]) (.tmp rfl) T34 rfl T46 rfl rfl (by simp; omega) rfl rfl) ?_ (6,0);refine gW (Wk.of (sl:=[(2,some (.ptr 2 0)),(5,some (.ms 20 1 0 (2 * i + 2))),(8,some (.lst 2 (ps.map fun p=>ptA p.1 p.2))),(9,some (i64 ps.length)),(10,some (i64 i))]) (hp:=[(2,some (.box [.lst 1 (ts.map nA)])),(20,some (.row 1 ((alt (ps.take (i + 1))).map nA)))]) abj (.cons rfl (.refl _) (.cons rfl (BlkSub.of (by rw [aap hp,awb,map_append]; rfl)) .nil))) ?_ (6,0);refine gW (Wk.rekey (k:=20) (d:=900) rfl rfl) ?_;refine ga aa0 ?_;exact gK1 hK1 (i + 1) hin
 ·have hin : i = ps.length := by have : ps.length <= i := (by simpa [aaa] using ht11); omega
  subst hin;refine gW ((Wk.freeze (k:=900) rfl).trans <| Wk.of (sl:=[(2,some (.ptr 2 0)),(5,some (.lst 1 ((alt ps).map nA)))]) (hp:=[(2,some (.box [.lst 1 (ts.map nA)]))]) (.k (.cons rfl (Sub.of (by rw [abu (by rw [length_map,alf,length_take]; omega),take_length])) .nil)) (.cons rfl (.refl _) .nil)) ?_;refine gc (afz tw (alt ps) (av9 hl) he (by rw [alf]; omega)) ?_;refine gE1 ?_
  first | rfl | (simp; done)
theorem amy (R:List AV) (a:List Rat):Con prog 276 [.ptr 1000 0, nA a, .v .nilIface] [(1000, some (.box [.lst 1 R, .v .nilIface]))] (nA a) [(1000, some (.box [.lst 1 R, .v .nilIface]))]:=by
 refine gF func276 (fun k z h=>aaz h) ?_;refine gC (fun ht11=>?_) (fun ht11=>?_) (st2:=(77777,0))
 ·refine gR ?_;exact Fin.keep (abm rfl)
 ·cases ht11
theorem al5 {ts:List (List Rat)} {r e f:Nat} (tw:Tw ts r) {a b:List Rat} (ha:Nm ts.length e a) (hb:Nm ts.length f b) (he:e + f <= lm ts.length) :
  Con prog 235 [.ptr 1000 0,nA a,nA b] [(1000,some (aw9 ts))] (nA (sh ts.length (T.add ts.length (dec ts.length a) (dec ts.length b)))) [(1000,some (aw9 ts))]:=by
 refine gF func235 (fun k z h=>aaz h) ?_;refine gc (a1x tw ha hb he) ?_;refine gt (aad (amy _ _) (.cons (.tmp rfl) (.cons (.tmp rfl) (.cons (.tmp rfl) .nil))) (by first | exact hH0 | exact hH1 rfl | exact hH2 rfl rfl) rfl rfl) ?_;refine gR ?_;exact Fin.keep (abm rfl)
theorem als {ts:List (List Rat)} {r e f:Nat} (tw:Tw ts r) {a b:List Rat} (ha:Nm ts.length e a) (hb:Nm ts.length f b) (he:e + f <= lm ts.length) :
  Con prog 231 [.ptr 1000 0,nA a,nA b] [(1000,some (aw9 ts))] (nA (sh ts.length (T.add ts.length (dec ts.length a) (T.neg ts.length (dec ts.length b))))) [(1000,some (aw9 ts))]:=by
 refine gF func231 (fun k z h=>aaz h) ?_;refine gc (ani tw ha hb he) ?_;refine gt (aad (amy _ _) (.cons (.tmp rfl) (.cons (.tmp rfl) (.cons (.tmp rfl) .nil))) (by first | exact hH0 | exact hH1 rfl | exact hH2 rfl rfl) rfl rfl) ?_;refine gR ?_;exact Fin.keep (abm rfl)
theorem aec {ts:List (List Rat)} {r e f:Nat} (tw:Tw ts r) {a b:List Rat} (ha:Nm ts.length e a) (hb:Nm ts.length f b) (he:e + f <= lm ts.length) :
  Con prog 197 [.ptr 1000 0,nA a,nA b] [(1000,some (aw9 ts))] (nA (sh ts.length (T.mul (aaj ts) ts.length (dec ts.length a) (dec ts.length b)))) [(1000,some (aw9 ts))]:=by
 refine gF func197 (fun k z h=>aaz h) ?_;refine gc (a0m tw ha hb he) ?_;refine gt (aad (amy _ _) (.cons (.tmp rfl) (.cons (.tmp rfl) (.cons (.tmp rfl) .nil))) (by first | exact hH0 | exact hH1 rfl | exact hH2 rfl rfl) rfl rfl) ?_;refine gR ?_;exact Fin.keep (abm rfl)
theorem avx {ts:List (List Rat)} {r e f:Nat} (tw:Tw ts r) {a b c d:List Rat} (ha:Nm ts.length e a) (hb:Nm ts.length e b) (hc:Nm ts.length f c) (hd:Nm ts.length f d) (he:2 * (e + f + kB r ts.length) <= lm ts.length) :
  Con prog 149 [.ptr 1000 0,ptA a b,ptA c d] [(1000,some (aw9 ts))] (nA (sh ts.length (bi7 ts (dec ts.length a) (dec ts.length b) (dec ts.length c) (dec ts.length d)))) [(1000,some (aw9 ts))]:=by
 refine gF func149 (fun k z h=>aaz h) ?_;refine gt (aad (aec tw ha hc (by omega)) (.cons (.tmp rfl) (.cons (.tmp rfl) (.cons (.tmp rfl) .nil))) (by first | exact hH0 | exact hH1 rfl | exact hH2 rfl rfl) rfl rfl) ?_;refine gt (aad (aec tw hb hd (by omega)) (.cons (.tmp rfl) (.cons (.tmp rfl) (.cons (.tmp rfl) .nil))) (by first | exact hH0 | exact hH1 rfl | exact hH2 rfl rfl) rfl rfl) ?_;refine gt (aad (a5s ▸ al5 tw (ha.mul tw rfl hc) (hb.mul tw rfl hd) (by omega)) (.cons (.tmp rfl) (.cons (.tmp rfl) (.cons (.tmp rfl) .nil))) (by first | exact hH0 | exact hH1 rfl | exact hH2 rfl rfl) rfl rfl) ?_;refine gD ?_;refine gR ?_;exact Fin.keep (abm rfl)
theorem azk {ts:List (List Rat)} {r e f:Nat} (tw:Tw ts r) {a b c d:List Rat} (ha:Nm ts.length e a) (hb:Nm ts.length e b) (hc:Nm ts.length f c) (hd:Nm ts.length f d) (he:2 * (e + f + kB r ts.length) <= lm ts.length) :
  Con prog 146 [.ptr 1000 0,ptA a b,ptA c d] [(1000,some (aw9 ts))] (nA (sh ts.length (aru ts (dec ts.length a) (dec ts.length b) (dec ts.length c) (dec ts.length d)))) [(1000,some (aw9 ts))]:=by
 refine gF func146 (fun k z h=>aaz h) ?_;refine gt (aad (aec tw ha hd (by omega)) (.cons (.tmp rfl) (.cons (.tmp rfl) (.cons (.tmp rfl) .nil))) (by first | exact hH0 | exact hH1 rfl | exact hH2 rfl rfl) rfl rfl) ?_;refine gt (aad (aec tw hb hc (by omega)) (.cons (.tmp rfl) (.cons (.tmp rfl) (.cons (.tmp rfl) .nil))) (by first | exact hH0 | exact hH1 rfl | exact hH2 rfl rfl) rfl rfl) ?_;refine gt (aad (ath ▸ als tw (ha.mul tw rfl hd) (hb.mul tw rfl hc) (by omega)) (.cons (.tmp rfl) (.cons (.tmp rfl) (.cons (.tmp rfl) .nil))) (by first | exact hH0 | exact hH1 rfl | exact hH2 rfl rfl) rfl rfl) ?_;refine gD ?_;refine gR ?_;exact Fin.keep (abm rfl)
end Go.Lw
namespace Go.Lw
def T.inv (r:(k:Nat) -> T k):(k:Nat) -> T k -> T k
  | 0,q=>(1:Rat) / q
  | k + 1, x =>
    if T.isZ k x.2 = true then (T.inv r k x.1,T.zero k)
    else if T.sgn r k (T.norm r k x) = 0 then (T.inv r k (T.add k x.1 x.1),T.zero k)
    else (T.mul r k x.1 (T.inv r k (T.norm r k x)),T.mul r k (T.neg k x.2) (T.inv r k (T.norm r k x)))
theorem T.inv_low (r:(k:Nat) -> T k) (k:Nat) (x:T k):T.inv r (k + 1) (x, T.zero k) = (T.inv r k x, T.zero k):=by
 have h:=(T.isZ_iff k (T.zero k)).2 rfl
 conv=>lhs; unfold T.inv
 simp only [if_pos h]
theorem asm (r:(k:Nat) -> T k) {i j:Nat} {s L:List Rat} (hs:s.length <= 2 ^ i) (hL:L.length <= 2 ^ i) (h:dec i L = T.inv r i (dec i s)) (hij:i <= j):dec j L = T.inv r j (dec j s):=by
  induction j with
  | zero => have : i = 0 := by omega
            subst this; exact h
  | succ j ih =>
    by_cases h':i = j + 1
    · rw [<- h']; exact h
    · rw [agh (le_trans hs (aa1 (by omega))),agh (le_trans hL (aa1 (by omega))),T.inv_low,ih (by omega)]
def iB (r:Nat):Nat -> Nat -> Nat
  | 0,e=>e
  | j + 1,e=>e + iB r j (4 * e + 3 * eB r j + r + 1) + eB r (j + 1)
theorem blf (r:Nat):∀ j e, e <= iB r j e
 | 0,e=>le_refl _
 | j + 1,e=>by simp only [iB]; omega
theorem azm (r:Nat):∀ j {e f:Nat}, e <= f -> iB r j e <= iB r j f
 | 0,e,f,h=>h
 | j + 1, e, f, h=>by
  have:=azm r j (e:=4 * e + 3 * eB r j + r + 1) (f:=4 * f + 3 * eB r j + r + 1) (by omega);simp only [iB]; omega
theorem bpv (r j e:Nat):iB r j e <= iB r (j + 1) e:=by
 have:=azm r j (e:=e) (f:=4 * e + 3 * eB r j + r + 1) (by omega);simp only [iB]; omega
theorem bks (r e:Nat) {i j:Nat} (h:i <= j):iB r i e <= iB r j e:=by
  induction j with
  | zero => have : i = 0 := by omega
            subst this; exact le_refl _
  | succ j ih =>
    by_cases hij:i = j + 1
    · rw [hij]; exact le_refl _
    · exact le_trans (ih (by omega)) (bpv r j e)
theorem bl3 (r e:Nat) {j:Nat} (h:j <= 1):iB r j e <= 5 * e + 2 * eB r j:=by
 match j,h with
 | 0,_=>simp only [iB,eB]; omega
 | 1,_=>simp only [iB,eB]; omega
theorem baa {r:(k:Nat) -> T k} {n:Nat} (h:Sg (E r n) (sg r n)) (hd:0 <= sg r n (rtE r n)) {x y:E r n} (hz:sg r (n + 1) (mkX x y) ≠ 0) (hN:sg r n (nnE x y) = 0):sg r n (x + x) ≠ 0:=by
 have hx:sg r n x ≠ 0:=by
  intro hx;rw [aq3,hN,hx] at hz;have h1:sg r n (x * x) = 0:=by rw [h.mul,hx]; simp
  have h2:=h.zadd (y:=-(y * y * rtE r n)) h1;unfold nnE at hN;rw [h2,h.neg,h.mul,h.mul] at hN;unfold T.sgn3 at hz;have c1:=h.cs y;have c2:=h.cs (rtE r n);rcases c1 with e | e | e <;> rcases c2 with e' | e' | e' <;> rw [e,e'] at hN <;> rw [e,e'] at hz <;> first | omega | (simp at hz) | (simp at hN)
 rcases h.cs x with e | e | e
 ·have := h.padd (x := -x) (y := -x) (by rw [h.neg, e]; rfl) (by rw [h.neg, e]; decide);rw [show -x + -x = -(x + x) by grind,h.neg] at this;omega
 ·exact absurd e hx
 ·have := h.padd (x := x) (y := x) e (by omega);omega
theorem Cb.inv1 {e:Nat} {q:Rat} (h:Cb e [q]) (hq:q ≠ 0):Cb e [(1:Rat) / q]:=by
 obtain ⟨D,N,⟨h0,h1⟩,h2,h3⟩:=h;obtain ⟨n,hn,hl⟩:=h1 q (by simp)
 have hD:((D:Int):Rat) ≠ 0:=by
  intro h9;have:(D:Int) = 0:=Rat.intCast_eq_zero_iff.1 h9;omega
 have hn0:n ≠ 0:=by
  rintro rfl;rw [show ((0:Int):Rat) = 0 from rfl] at hn;rcases Rat.mul_eq_zero.1 hn with h9 | h9
  ·exact hq h9
  ·exact hD h9
 have hnq:((n:Int):Rat) ≠ 0:=fun h9=>hn0 (Rat.intCast_eq_zero_iff.1 h9)
 refine ⟨n.natAbs,D,⟨by omega,?_⟩,le_trans hl h3,h2⟩;intro x hx;rw [List.mem_singleton.1 hx];have key:(1:Rat) / q * (n:Rat) = ((D:Int):Rat):=by rw [<- hn]; grind
 rcases Int.natAbs_eq n with e9 | e9
 ·refine ⟨D, ?_, by simp⟩;rw [<- e9]; exact key
 ·refine ⟨-(D : Int), ?_, by simp⟩;rw [Rat.intCast_neg,<- key]
  conv=>rhs; rw [e9]
  rw [Rat.intCast_neg]; grind
theorem bkd {e n:Nat} {s:List Rat} (h:Cb e s):Cb e (agi (s.take n) (ab8 (s.drop n)) n):=by
 obtain ⟨D,N,h1,h2,h3⟩:=h;exact ⟨D,N,(h1.sub (fun q hq=>mem_of_mem_take hq)).join (h1.sub (fun q hq=>List.mem_of_mem_drop hq)).minus,h2,h3⟩
theorem bdy:∀ {j i:Nat} {x:T j}, (sh j x).length = 2 ^ (i + 1) -> i + 1 <= j -> T.isZ i (dec i ((sh j x).drop (2 ^ i))) = false
 | 0,i,x,_,h=>by omega
 | j + 1, i, x, hl, h=>by
  cases hz:T.isZ j x.2
  ·have h1:=bhv hz;rw [h1] at hl
   have e:i = j:=by
    rcases Nat.lt_trichotomy i j with h9 | h9 | h9
    ·have := Nat.pow_lt_pow_right (a := 2) (by omega) (show i + 1 < j + 1 by omega);omega
    ·exact h9
    ·omega
   subst e;have h2:dec (i + 1) (sh (i + 1) x) = x:=abk (i + 1) x;have h3:dec i ((sh (i + 1) x).drop (2 ^ i)) = x.2:=congrArg Prod.snd h2;rw [h3]; exact hz
  ·have h1:sh (j + 1) x = sh j x.1:=by
    conv=>lhs; unfold sh
    rw [if_pos hz]
   rw [h1] at hl ⊢;have h2:=(aip j x.1).le
   have h3:i + 1 <= j:=by
    rcases lt_or_ge j (i + 1) with h9 | h9
    ·have := Nat.pow_lt_pow_right (a := 2) (by omega) h9;omega
    ·exact h9
   exact bdy hl h3
theorem bqo (r:(k:Nat) -> T k) {i:Nat} {x:T (i + 1)} (hz:T.isZ i x.2 = false) (h0:T.sgn r i (T.norm r i x) = 0):T.inv r (i + 1) x = (T.inv r i (T.add i x.1 x.1), T.zero i):=by
 conv=>lhs; unfold T.inv
 rw [if_neg (by rw [hz]; decide),if_pos h0]
theorem bo7 (r:(k:Nat) -> T k) {i:Nat} {x:T (i + 1)} (hz:T.isZ i x.2 = false) (h0:T.sgn r i (T.norm r i x) ≠ 0) :
  T.inv r (i + 1) x = (T.mul r i x.1 (T.inv r i (T.norm r i x)),T.mul r i (T.neg i x.2) (T.inv r i (T.norm r i x))):=by
 conv=>lhs; unfold T.inv
 rw [if_neg (by rw [hz]; decide),if_neg h0]
theorem mul_low (r:(k:Nat) -> T k) (i:Nat) (x y w:T i):T.mul r (i + 1) (x, y) (w, T.zero i) = (T.mul r i x w, T.mul r i y w):=by
 show (T.add i (T.mul r i x w) (T.mul r i (T.mul r i y (T.zero i)) (r i)),T.add i (T.mul r i x (T.zero i)) (T.mul r i y w)) = _;rw [T.mul_zero,T.zero_mul,T.mul_zero,T.add_zero,T.zero_add]
end Go.Lw
namespace Go.Lw
open Go.Proofs
theorem a4l {n e:Nat} {l:List Rat} (h:Nm n e l) (he:e <= 4398046511103):NR (l.map rt) e:=by
 refine ⟨?_,by have:=h.nl.len5 h.five; rw [length_map]; omega,by rw [amw]; exact h.cb⟩;intro x hx;obtain ⟨q,hq,rfl⟩:=List.mem_map.1 hx;exact (h.cb.qs (by omega) hq).ok
theorem bjn {ts:List (List Rat)} {j e:Nat} {a:List Rat} {q:Rat} (h5:j <= 5) (ha:Nl j a) (ca:Cb e a) (he:e < 4398046511104) (hs:sh j (dec j a) = [q]) (hq:q ≠ 0) :
  FnC prog 277 [acm ts,nA a] (nA [1 / q]):=by
 have qa:∀ q ∈ a,Qs q:=fun q hq=>ca.qs he hq
 have cs:=ca.sh ha;rw [hs] at cs;have qq:Qs q:=cs.qs he (by simp);have hsh:=ab4 a h5 ha qa;rw [hs] at hsh;have hdv:=akb (rt 1) (rt q) (Qb.one.qs (by omega)).ok qq.ok;rw [ahn,ahn,if_neg hq] at hdv;refine gF0 func277 ?_;refine gc hsh ?_;refine gl ?_;refine gC (fun ht13=>?_) (fun ht13=>?_) (st2:=(77777,0))
 ·refine gc (act 1 (by omega)) ?_;refine gi rfl ?_;refine gc hdv ?_;refine gD ?_;refine gE1 ?_;rfl
 ·cases ht13
theorem bl2 {ts:List (List Rat)} {m r:Nat} (ht:axu ts m r) (hm:m <= 5) (hml:m <= ts.length) {j e i:Nat} {a s L:List Rat} (h5:j <= 5) (ha:Nl j a) (ca:Cb e a) (he:4 * e + 3 * eB r i + r + 1 < 4398046511104) (hs:sh j (dec j a) = s) (hi:i + 1 <= m)
  (hsl:s.length = 2 ^ (i + 1)) (hb:sB r i (4 * e + 3 * eB r i + r + 1) < 4398046511104) (h0:T.sgn (aaj ts) i (dec i (ako ts i s)) = 0)
  (hL:FnC prog 277 [acm ts,nA (ac4 (s.take (2 ^ i)) (s.take (2 ^ i)))] (nA L)):FnC prog 277 [acm ts,nA a] (nA L):=by
 have qa:∀ q ∈ a,Qs q:=fun q hq=>ca.qs (by omega) hq
 have cs:=ca.sh ha;have hsh:=ab4 a h5 ha qa;rw [hs] at cs hsh;have hp2:=Nat.two_pow_pos i;have hpi:2 ^ i <= 32:=aa1 (b:=5) (by omega);have hps:2 ^ (i + 1) = 2 * 2 ^ i:=by rw [Nat.pow_succ]; omega
 obtain ⟨nn,dn,cn⟩:=ajk ht (by omega) hsl cs;have k4:=ael ts m r ht hm hml i _ _ (by omega) nn cn hb;have qs:∀ q ∈ s.take (2 ^ i),Qs q:=fun q hq=>cs.take.qs (by omega) hq
 refine gF0 func277 ?_;refine gc hsh ?_;refine gl ?_;refine gC (fun ht13=>?_) (fun ht13=>?_) (st1:=(3,0))
 ·exact absurd ht13 (by simp only [aaa,beq_iff_eq]; omega)
 ·refine gl ?_;refine gs (ad0 (.tmp rfl) (.const _) (by omega) (show _ = ((2 ^ i:Nat):Int) by rw [acd (by omega),hsl,ab2]) rfl) ?_;refine gc (ajh ts m r ht hm hml i s e (by omega) hsl cs (by omega)) ?_;refine gc k4 ?_;refine gC (fun ht33=>?_) (fun ht33=>?_) (st2:=(77777,0))
  ·refine gs (aao (.tmp rfl) (.none _) (.some _ (.tmp rfl) (by omega)) T46 rfl T29 rfl (by omega) (by simp only [length_map]; omega) rfl) ?_;refine gs (aao (.tmp rfl) (.none _) (.some _ (.tmp rfl) (by omega)) T46 rfl T29 rfl (by omega) (by simp only [length_map]; omega) rfl) ?_;refine gc (by have h9:=aek _ _ qs qs (by simp; omega) (by simp; omega); rw [<- agx] at h9; exact h9) ?_;refine gc hL ?_;refine gD ?_;refine gE1 ?_;rfl
  ·exact absurd ht33 (by rw [h0]; decide)
theorem bml {ts:List (List Rat)} {m r:Nat} (ht:axu ts m r) (hm:m <= 5) (hml:m <= ts.length) {j e f i:Nat} {a s L:List Rat} (h5:j <= 5) (ha:Nl j a) (ca:Cb e a) (he:4 * e + 3 * eB r i + r + 1 < 4398046511104) (hs:sh j (dec j a) = s) (hi:i + 1 <= m)
  (hsl:s.length = 2 ^ (i + 1)) (hb:sB r i (4 * e + 3 * eB r i + r + 1) < 4398046511104) (h0:T.sgn (aaj ts) i (dec i (ako ts i s)) ≠ 0)
  (hL:FnC prog 277 [acm ts,nA (ako ts i s)] (nA L)) (nL:Nl i L) (cL:Cb f L) (hf:e + f + eB r (i + 1) < 4398046511104) :
  FnC prog 277 [acm ts,nA a] (nA (pT ts (i + 1) (agi (s.take (2 ^ i)) (ab8 (s.drop (2 ^ i))) (2 ^ i)) L)):=by
 have qa:∀ q ∈ a,Qs q:=fun q hq=>ca.qs (by omega) hq
 have cs:=ca.sh ha;have hsh:=ab4 a h5 ha qa;rw [hs] at cs hsh;have hp2:=Nat.two_pow_pos i;have hpi:2 ^ i <= 32:=aa1 (b:=5) (by omega);have hps:2 ^ (i + 1) = 2 * 2 ^ i:=by rw [Nat.pow_succ]; omega
 obtain ⟨nn,dn,cn⟩:=ajk ht (by omega) hsl cs;have k4:=ael ts m r ht hm hml i _ _ (by omega) nn cn hb;have qy:∀ q ∈ s.drop (2 ^ i),Qs q:=fun q hq=>cs.drop.qs (by omega) hq
 have lx:(s.take (2 ^ i)).length = 2 ^ i:=ada hsl;have ly:(s.drop (2 ^ i)).length = 2 ^ i:=adh hsl;have nj:Nl (i + 1) (agi (s.take (2 ^ i)) (ab8 (s.drop (2 ^ i))) (2 ^ i)):=.inr ⟨i + 1,le_refl _,by rw [ah1 (by omega) (by rw [acx]; omega)]; omega⟩;have cj:Cb e (agi (s.take (2 ^ i)) (ab8 (s.drop (2 ^ i))) (2 ^ i)):=bkd cs;have hti:=ad8 ts m r ht hm hml (i + 1) (i + 1) _ _ e f hi (le_refl _) nj (nL.mono (by omega)) cj cL hf;refine gF0 func277 ?_;refine gc hsh ?_;refine gl ?_;refine gC (fun ht13=>?_) (fun ht13=>?_) (st1:=(3,0))
 ·exact absurd ht13 (by simp only [aaa,beq_iff_eq]; omega)
 ·refine gl ?_;refine gs (ad0 (.tmp rfl) (.const _) (by omega) (show _ = ((2 ^ i:Nat):Int) by rw [acd (by omega),hsl,ab2]) rfl) ?_;refine gc (ajh ts m r ht hm hml i s e (by omega) hsl cs (by omega)) ?_;refine gc k4 ?_;refine gC (fun ht33=>?_) (fun ht33=>?_) (st1:=(8,0))
  ·exact absurd ht33 (by simp only [aaa,beq_iff_eq]; omega)
  ·refine gs (aao (.tmp rfl) (.none _) (.some _ (.tmp rfl) (by omega)) T46 rfl T29 rfl (by omega) (by simp only [length_map]; omega) rfl) ?_;refine gs (aao (.tmp rfl) (.some _ (.tmp rfl) (by omega)) (.none _) T46 rfl T29 rfl (by simp only [length_map]; omega) (by omega) rfl) ?_;refine gc (by have h9:=af1 _ qy (by omega); rw [<- af2] at h9; exact h9) ?_;refine gc (by have h9:=aiz (s.take (2 ^ i)) (ab8 (s.drop (2 ^ i))) (2 ^ i) (by omega) (by rw [acx]; omega) (by omega); rw [<- agx] at h9; exact h9) ?_;refine gc hL ?_;refine gc hti ?_;refine gD ?_;refine gE1 ?_;rfl
theorem aqy {ts:List (List Rat)} {m r:Nat} (ht:axu ts m r) (hp:Pos (aaj ts) m) (hm:m <= 5) (hml:m <= ts.length) (j:Nat):∀ (a:List Rat) (e:Nat), j <= m -> Nl j a -> Cb e a -> T.sgn (aaj ts) j (dec j a) ≠ 0 ->
  sB r j e < 4398046511104 -> iB r j e < 4398046511104 -> ∃ L,FnC prog 277 [acm ts,nA a] (nA L) /\ Nl j L /\ Cb (iB r j e) L /\ dec j L = T.inv (aaj ts) j (dec j a):=by
 induction j using Nat.strongRecOn
 rename_i j ih;intro a e hj ha ca h0 hs hi;have hse:=ayd r j e;have cs:=ca.sh ha;have hsn:=aip j (dec j a);have hsd:=abk j (dec j a);have hle:=blf r j e;obtain ⟨s,hsa⟩:∃ s,sh j (dec j a) = s:=⟨_,rfl⟩
 rcases ahw hsn with h | h | ⟨i,hij,h⟩
 ·exfalso;have h1:=List.length_eq_zero_iff.1 h;rw [h1,afa] at hsd;rw [<- hsd,T.sgn_zero] at h0;exact h0 rfl
 ·obtain ⟨q, hq⟩:=List.length_eq_one_iff.1 h;rw [hq,air] at hsd;rw [<- hsd,T.sgn_ofQ] at h0;have q0:q ≠ 0:=by rintro rfl; exact h0 rfl
  refine ⟨[1 / q],bjn (by omega) ha ca (by omega) hq q0,.inr ⟨0,by omega,rfl⟩,(Cb.inv1 (hq ▸ cs) q0).mono hle,?_⟩;rw [<- hsd,<- air j q];exact asm (aaj ts) (i:=0) (s:=[q]) (L:=[1 / q]) (by simp) (by simp) rfl (by omega)
 ·have hz:=bdy h hij;rw [hsa] at h cs hsd hsn hz;obtain ⟨nn,dn,cn⟩:=ajk ht (by omega) h cs;have hsl:s.length <= 2 ^ (i + 1):=by omega
  have b1:sB r i (4 * e + 3 * eB r i + r + 1) <= sB r j e:=av8 r e hij;have b2:=ayd r i (4 * e + 3 * eB r i + r + 1);have b3:iB r (i + 1) e <= iB r j e:=bks r e hij;have b4:iB r (i + 1) e = e + iB r i (4 * e + 3 * eB r i + r + 1) + eB r (i + 1):=rfl;have lx:(s.take (2 ^ i)).length = 2 ^ i:=ada h;have ly:(s.drop (2 ^ i)).length = 2 ^ i:=adh h;have hpi:2 ^ i <= 2 ^ (i + 1):=Nat.pow_le_pow_right (by omega) (by omega);rw [<- hsd] at h0 ⊢
  by_cases hN:T.sgn (aaj ts) i (dec i (ako ts i s)) = 0
  ·have hS := a1f (aaj ts) i (fun k hk => hp k (by omega))
   have hx:T.sgn (aaj ts) i (dec i (ac4 (s.take (2 ^ i)) (s.take (2 ^ i)))) ≠ 0:=by
    rw [ad9];rw [ao8 (aaj ts) hsl hij] at h0;rw [dn] at hN;exact baa hS (hp i (by omega)) (x:=dec i (s.take (2 ^ i))) (y:=dec i (s.drop (2 ^ i))) h0 hN
   have np:Nl i (ac4 (s.take (2 ^ i)) (s.take (2 ^ i))):=.inr ⟨i,le_refl _,by rw [abl]; omega⟩;have b5:=ak5 r i (e:=e + e + 1) (f:=4 * e + 3 * eB r i + r + 1) (by omega);have b6:=azm r i (e:=e + e + 1) (f:=4 * e + 3 * eB r i + r + 1) (by omega);obtain ⟨L,k1,k2,k3,k4⟩:=ih i (by omega) _ _ (by omega) np (cs.take.plus cs.take) hx (by omega) (by omega);refine ⟨L,bl2 ht hm hml (by omega) ha ca (by omega) hsa (by omega) h (by omega) hN k1,k2.mono (by omega),k3.mono (by omega),?_⟩;refine asm (aaj ts) (i:=i + 1) hsl (le_trans k2.le hpi) ?_ hij;rw [bqo (aaj ts) hz (by rw [<- dn]; exact hN),agh k2.le,k4,ad9];rfl
  ·obtain ⟨L, k1, k2, k3, k4⟩ := ih i (by omega) _ _ (by omega) nn cn hN (by omega) (by omega);have nj:Nl (i + 1) (agi (s.take (2 ^ i)) (ab8 (s.drop (2 ^ i))) (2 ^ i)):=.inr ⟨i + 1,le_refl _,by rw [ah1 (by omega) (by rw [acx]; omega),Nat.pow_succ]; omega⟩;have s1:=adi ts m ht.1 (i + 1) (i + 1) _ _ (by omega) (le_refl _) nj (k2.mono (by omega));have c1:=Cb.mul ht (k:=i + 1) (show i + 1 <= m by omega) (le_refl _) nj (k2.mono (by omega)) (bkd cs) k3;refine ⟨_,bml ht hm hml (by omega) ha ca (by omega) hsa (by omega) h (by omega) hN k1 k2 k3 (by omega),s1.1.mono hij,c1.mono (by omega),?_⟩;refine asm (aaj ts) (i:=i + 1) hsl s1.1.le ?_ hij;rw [bo7 (aaj ts) hz (by rw [<- dn]; exact hN),s1.2,aoh (by omega),agh k2.le,mul_low,afs,k4,dn];rfl
theorem bii {ts:List (List Rat)} {r e f:Nat} (tw:Tw ts r) {a b:List Rat} (ha:Nm ts.length e a) (hb:Nm ts.length f b) (he:e <= 4398046511103) (hf:f <= 4398046511103):FnC prog 163 [acm ts, .lst 1 [nA a, nA b]] (.v .nilIface):=by
 have hck:=acz (ts.map (List.map rt)) r tw.tr [a.map rt,b.map rt] (avf (a4l ha he) (a4l hb hf)) (by simp);have hc0:acb (ts.map (List.map rt)) [a.map rt,b.map rt] = 0:=aov tw ha hb;rw [hc0,agd] at hck;rw [show [nA a,nA b] = [a.map rt,b.map rt].map nR by simp [ai7]];exact hck
theorem beu {ts:List (List Rat)} {r f j:Nat} (tw:Tw ts r) {b:List Rat} (hb:Nm ts.length f b) (hj:j <= ts.length) (nb:Nl j b) (h0:T.sgn (aaj ts) ts.length (dec ts.length b) ≠ 0) (hf:f <= lm ts.length) (hi:iB r j f < 4398046511104) :
  ∃ L,FnC prog 277 [acm ts,nA b] (nA L) /\ Nl ts.length L /\ Cb (iB r j f) L /\ dec ts.length L = T.inv (aaj ts) ts.length (dec ts.length b):=by
 rw [ao8 (aaj ts) nb.le hj] at h0;obtain ⟨L,k1,k2,k3,k4⟩:=aqy tw.ok tw.pos tw.five (le_refl _) j b f hj nb hb.cb h0 (axd hj tw.three tw.le hf) hi;exact ⟨L,k1,k2.mono hj,k3,asm (aaj ts) nb.le k2.le k4 hj⟩
theorem a4m {ts:List (List Rat)} {r e f j:Nat} (tw:Tw ts r) {a b:List Rat} (ha:Nm ts.length e a) (hb:Nm ts.length f b) (hj:j <= ts.length) (nb:Nl j b) (h0:T.sgn (aaj ts) ts.length (dec ts.length b) ≠ 0) (hf:f <= lm ts.length) (he:e + iB r j f + eB r ts.length <= 200000000000) :
  FnC prog 198 [acm ts,nA a,nA b] (.tup [nA (sh ts.length (T.mul (aaj ts) ts.length (dec ts.length a) (T.inv (aaj ts) ts.length (dec ts.length b)))),.v .nilIface]):=by
 have hlm:=aq5 ts.length;have h5:=tw.five;have h3:=tw.three;have hfe:=blf r j f;have hsB:=axd (le_refl ts.length) h3 tw.le hf;have hsg:=ael ts ts.length r tw.ok h5 (le_refl _) ts.length _ _ (le_refl _) hb.nl hb.cb hsB;obtain ⟨L,k1,k2,k3,k4⟩:=beu tw hb hj nb h0 hf (by omega);have hti:=ad8 ts ts.length r tw.ok h5 (le_refl _) ts.length ts.length _ _ _ _ (le_refl _) (le_refl _) ha.nl k2 ha.cb k3 (by omega);have s1:=adi ts ts.length tw.ok.1 ts.length ts.length _ _ (le_refl _) (le_refl _) ha.nl k2;have c1:=Cb.mul tw.ok (k:=ts.length) (le_refl _) (le_refl _) ha.nl k2 ha.cb k3;have hsh:=ab4 _ h5 s1.1 (fun q hq=>c1.qs (by omega) hq);rw [s1.2,k4] at hsh;refine gF0 func198 ?_;refine gc (bii tw ha hb (by omega) (by omega)) ?_;refine gC (fun ht15=>?_) (fun ht15=>?_) (st1:=(3,0))
 ·cases ht15
 ·refine gc hsg ?_;refine gC (fun ht20=>?_) (fun ht20=>?_) (st1:=(5,0))
  ·exact absurd ht20 (by simp only [aaa,beq_iff_eq]; omega)
  ·refine gc k1 ?_;refine gc hti ?_;refine gc hsh ?_;refine gD ?_;refine gE2 ?_;rfl
theorem a6w {ts:List (List Rat)} {r e f j:Nat} (tw:Tw ts r) {a b:List Rat} (ha:Nm ts.length e a) (hb:Nm ts.length f b) (hj:j <= ts.length) (nb:Nl j b) (h0:T.sgn (aaj ts) ts.length (dec ts.length b) ≠ 0) (hf:f <= lm ts.length) (he:e + iB r j f + eB r ts.length <= 200000000000) :
  Nm ts.length (e + iB r j f + eB r ts.length) (sh ts.length (T.mul (aaj ts) ts.length (dec ts.length a) (T.inv (aaj ts) ts.length (dec ts.length b)))):=by
 obtain ⟨L,k1,k2,k3,k4⟩:=beu tw hb hj nb h0 hf (by omega);have s1:=adi ts ts.length tw.ok.1 ts.length ts.length _ _ (le_refl _) (le_refl _) ha.nl k2;have c1:=Cb.mul tw.ok (k:=ts.length) (le_refl _) (le_refl _) ha.nl k2 ha.cb k3;refine ⟨tw.five,aip _ _,?_⟩;rw [<- k4,<- s1.2];exact c1.sh s1.1
end Go.Lw
namespace Go.Lw
open Go.Proofs
def aei (k:Nat):List Rat:=(List.replicate (2 ^ (k + 1)) 0).set (2 ^ k) 1
def ack (ts:List (List Rat)) (a:List Rat):List (List Rat):=ts ++ [aaw a (2 ^ ts.length)]
theorem bcx (k:Nat):BlkSub (.row 3 ((List.replicate (2 ^ (k + 1)) (.agg [.v (.bool false), .v (.slice none 0 0), .v (.slice none 0 0)])).set (2 ^ k) (qA 1))) (.row 3 ((aei k).map qA)):=by
 unfold aei;refine .row ?_ ?_
 ·simp
 ·intro i e e' he he';rw [map_set,map_replicate] at he';rw [List.getElem?_set] at he he';split at he
  ·rename_i h1;rw [if_pos h1] at he';split at he
   ·rename_i h2;rw [length_replicate] at h2;rw [length_replicate,if_pos h2] at he';cases he; cases he'
    exact adb.refl (a6v 1)
   ·cases he
  ·rename_i h1;rw [if_neg h1] at he';rw [List.getElem?_replicate] at he he';split at he
   ·rename_i h2;rw [if_pos h2] at he';cases he; cases he'
    exact qZ
   ·cases he
theorem ats (k:Nat):(aei k).length = 2 ^ (k + 1):=by simp [aei]
theorem a99 {k:Nat} (hk:k <= 5):IntKind.i64.wrap ((2:Int) * 2 ^ (min (k:Int).toNat IntKind.i64.bits)) = ((2 ^ (k + 1):Nat):Int):=by
 have h:k = 0 \/ k = 1 \/ k = 2 \/ k = 3 \/ k = 4 \/ k = 5:=by omega
 rcases h with rfl | rfl | rfl | rfl | rfl | rfl <;> rfl
theorem atu (d:Nat) (hd:Nat.blt d 1000 = true) (k:Nat) (hk:k <= 5):Con prog 195 [i64 k] [] (.ms d 3 0 (2 ^ (k + 1))) [(d, some (.row 3 ((aei k).map qA)))]:=by
 have hp:2 ^ (k + 1) <= 64:=aa1 (b:=6) (by omega);have hp2:2 ^ k < 2 ^ (k + 1):=Nat.pow_lt_pow_right (by omega) (by omega);have hp0:=Nat.two_pow_pos k;refine gF func195 (fun k z h=>by cases h) ?_;refine gs (afx (.const _) (.tmp rfl) (by omega) (a99 hk) rfl) ?_;refine gs (afq (.tmp rfl) T46 rfl T29 rfl rfl (by omega) (by dsimp only; omega) rfl) ?_;refine gs (afx (.const _) (.tmp rfl) (by omega) (ah8 (by omega)) rfl) ?_;refine gc (act 1 (by omega)) ?_;refine gs (aar (n:=2 ^ k) (.tmp rfl) (.tmp rfl) T46 rfl T29 rfl (by omega) (by omega) rfl) ?_;refine gs (aa2 (.tmp rfl) rfl (by rw [List.getElem?_replicate,if_pos (by omega)]) rfl (.tmp rfl) rfl rfl T29 rfl rfl) ?_;refine gD ?_ (3,0);refine gW (Wk.of (sl:=[(3,some (.ms 6 3 0 (2 ^ (k + 1))))]) (hp:=[(6,some (.row 3 ((aei k).map qA)))]) (.cons rfl (Sub.of (congrArg (AV.ms 6 3 0) (toNat_natCast _))) .nil) (.cons rfl (bcx k) .nil)) ?_;refine gR ?_;exact Fin.own1 rfl hd rfl
theorem auz (k:Nat) (hk:k <= 5):FnC prog 195 [i64 k] (nA (aei k)):=by
 have h:=Con.freeze (by rw [length_map,ats]; omega) (atu 0 rfl k hk);rw [drop_zero,take_of_length_le (by rw [length_map,ats]; exact le_refl _)] at h;exact h
theorem bg9 {ts:List (List Rat)} {r e:Nat} (tw:Tw ts r) {a:List Rat} (ha:Nm ts.length e a) (he:e <= 4398046511103):FnC prog 163 [acm ts, .lst 1 [nA a]] (.v .nilIface):=by
 have hx:=a4l ha he;have hck:=acz (ts.map (List.map rt)) r tw.tr [a.map rt] (fun x h=>by rw [List.mem_singleton.1 h]; exact ⟨hx.ok,hx.len⟩) (by simp);have hc0:acb (ts.map (List.map rt)) [a.map rt] = 0:=axk tw ha;rw [hc0,agd] at hck;rw [show [nA a] = [a.map rt].map nR by simp [ai7]];exact hck
theorem bg8 {ts:List (List Rat)} {r e:Nat} (tw:Tw ts r) {a:List Rat} (ha:Nm ts.length e a) (he:e <= 4398046511103):FnC prog 193 [acm ts, nA a] (.tup [nA (aaw a (2 ^ ts.length)), .v .nilIface]):=by
 have h5:=tw.five;have hl:=ha.nl.le;have hp:2 ^ ts.length <= 32:=aa1 (b:=5) (by omega);have qa:∀ q ∈ a,Qs q:=fun q hq=>ha.cb.qs (by omega) hq
 refine gF0 func193 ?_;refine gc (bg9 tw ha he) ?_;refine gC (fun ht12=>?_) (fun ht12=>?_) (st1:=(3,0))
 ·cases ht12
 ·refine gc (ag3 a qa (by omega)) ?_;refine gl ?_;refine gs (afx (.const _) (.tmp rfl) (by omega) (ah8 (by omega)) rfl) ?_;refine gc (ai5 a (2 ^ ts.length) hl (by omega)) ?_;refine gD ?_;refine gE2 ?_;rfl
theorem awx {ts:List (List Rat)} {r e:Nat} (tw:Tw ts r) {a:List Rat} (ha:Nm ts.length e a) (he:e <= lm ts.length) (hs:0 <= T.sgn (aaj ts) ts.length (dec ts.length a)) :
  FnC prog 87 [acm ts,nA a] (.tup [acm (ack ts a),nA (aei ts.length),.v .nilIface]):=by
 have h3:=tw.three;have h5:=tw.five;have hlm:=aq5 ts.length;have hl:=ha.nl.le;have nw:Nl ts.length (aaw a (2 ^ ts.length)):=.inr ⟨_,le_refl _,abf hl⟩;have hsg:=ael ts ts.length r tw.ok h5 (le_refl _) ts.length _ _ (le_refl _) nw ha.cb.wide (axd (le_refl ts.length) h3 tw.le he);rw [aln] at hsg;have hqs:=tw.rb.qs tw.le;refine gF0 func87 ?_;refine gc (bg8 tw ha (by omega)) ?_;refine gC (fun ht18=>?_) (fun ht18=>?_) (st1:=(3,0))
 ·cases ht18
 ·refine gc hsg ?_;refine gC (fun ht23=>?_) (fun ht23=>?_) (st1:=(5,0))
  ·exact absurd ht23 (by simp only [aaa,decide_eq_true_eq]; omega)
  ·refine gl ?_;refine gC (fun ht30=>?_) (fun ht30=>?_) (st1:=(7,0))
   ·exact absurd ht30 (by simp only [aaa,decide_eq_true_eq]; omega)
   ·refine gl ?_;refine gW (Wk.virt 900 1 rfl) ?_;refine gL1 [2,4,7,9,38,39] [2,4] (fun (i:Nat)=>[(40,some (i64 i))]) (fun i=>[(9,some (.box [.ms 900 1 0 i])),(900,some (.row 1 ((ts.take i).map nA)))]) (fun i=>i <= ts.length) (fun i=>ts.length - i) 0 (zero_le _) ?_ (h2:=(.cons rfl (BlkSub.boxL (.cons (.nilMs _ _ _) .nil) rfl) (.cons rfl (.refl _) .nil)));rintro i hi K1 hK1;refine gC (fun ht41=>?_) (fun ht41=>?_)
    ·have hin:=abv ht41;obtain ⟨d,hd⟩:=acj hin
     have hdl:d.length <= 32:=by
      have h9:=tw.len i hin;rw [aag hd] at h9;have:2 ^ i <= 32:=aa1 (b:=5) (by omega);omega
     refine gi (aai hd) ?_;refine gc (ag3 d (hqs d (mem_of_getElem? hd)) (by omega)) ?_;refine gs (aa5 (.tmp rfl) rfl (by rw [length_map,length_take]; omega) (.tmp rfl) T34 rfl T46 rfl rfl (by simp only [length_cons,length_nil]; omega) rfl rfl) ?_;refine gD ?_ (13,0);refine gW (Wk.of (sl:=[(2,some (.ptr 2 0)),(4,some (.ptr 4 0)),(7,some (nA (aaw a (2 ^ ts.length)))),(9,some (.ptr 9 0)),(38,some (.lst 1 (ts.map nA))),(39,some (i64 ts.length)),(40,some (i64 i))]) (hp:=[(2,some (.box [.lst 1 (ts.map nA)])),(4,some (.box [.v (.slice none 0 0)])),(9,some (.box [.ms 49 1 0 (i + 1)])),(49,some (.row 1 ((ts.take (i + 1)).map nA)))]) abj (.cons rfl (.refl _) (.cons rfl (.refl _) (.cons rfl (.refl _) (.cons rfl (BlkSub.of (by rw [aap hd,map_append]; rfl)) .nil))))) ?_ (13,0)
     refine gW (Wk.rekey (k:=49) (d:=900) rfl rfl) ?_;refine ga aa0 ?_;exact gK1 hK1 (i + 1) hin
    ·have hin:=aau hi ht41;subst hin;refine gs (aa5 (.tmp rfl) rfl (by rw [length_map,length_take]; omega) (.tmp rfl) T34 rfl T46 rfl rfl (by simp only [length_cons,length_nil]; omega) rfl rfl) ?_ (15,0);refine gW ((Wk.freeze (k:=56) rfl).trans <| Wk.of (sl:=[(2,some (.ptr 2 0)),(4,some (.ptr 4 0)),(9,some (.ptr 9 0))]) (hp:=[(2,some (.box [.lst 1 (ts.map nA)])),(4,some (.box [.v (.slice none 0 0)])),(9,some (.box [.lst 1 ((ack ts a).map nA)]))]) abj (.cons rfl (.refl _) (.cons rfl (.refl _) (.cons rfl (BlkSub.boxL (.cons (Sub.of (by rw [abu (by simp)]; unfold ack; simp)) .nil) rfl) .nil)))) ?_
     refine gl ?_;refine gc (auz ts.length (by omega)) ?_;refine gD ?_;refine gE3 ?_;rfl
theorem amz {ts:List (List Rat)} {r:Nat} (tw:Tw ts r):FnC prog 80 [acm ts] (acm ts):=by
 have h3:=tw.three;have hqs:=tw.rb.qs tw.le;refine gF0 func80 ?_;refine gl ?_;refine gW (Wk.virt 900 1 rfl) ?_;refine gL1 [2,3,10,11] [2] (fun (i:Nat)=>[(12,some (i64 i))]) (fun i=>[(3,some (.box [.ms 900 1 0 i])),(900,some (.row 1 ((ts.take i).map nA)))]) (fun i=>i <= ts.length) (fun i=>ts.length - i) 0 (zero_le _) ?_ (h2:=(.cons rfl (BlkSub.boxL (.cons (.nilMs _ _ _) .nil) rfl) (.cons rfl (.refl _) .nil)));rintro i hi K1 hK1;refine gC (fun ht13=>?_) (fun ht13=>?_) (st2:=(13,0))
 ·have hin:=abv ht13;obtain ⟨d,hd⟩:=acj hin
  have hdl:d.length <= 32:=by
   have h9:=tw.len i hin;rw [aag hd] at h9;have:2 ^ i <= 32:=aa1 (b:=5) (by omega);omega
  have hdq:=hqs d (mem_of_getElem? hd);refine gi (aai hd) ?_;refine gl ?_;refine gW (Wk.virt 901 3 rfl) ?_;refine gL1 [2,3,10,11,12,16,17] [2,3,900] (fun (j:Nat)=>[(6,some (.ms 901 3 0 j)),(18,some (i64 j))]) (fun j=>[(901,some (.row 3 ((d.take j).map qA)))]) (fun j=>j <= d.length) (fun j=>d.length - j) 0 (zero_le _) ?_;rintro j hj K2 hK2;refine gC (fun ht19=>?_) (fun ht19=>?_) (st2:=(11,0))
  ·have hjn:=abv ht19;obtain ⟨q,hq⟩:=acj hjn;have hadd:=adg (rt q) (rt 0) (hdq q (mem_of_getElem? hq)).ok Qs.zero.ok;rw [bbf,ahn] at hadd;refine gi (aai hq) ?_;refine gc (Con.subA (.cons (.refl _) (.cons aje .nil)) hadd) ?_;refine gs (aa5 (.tmp rfl) rfl (by rw [length_map,length_take]; omega) (.tmp rfl) T46 rfl T29 rfl rfl (by simp only [length_cons,length_nil]; omega) rfl rfl) ?_ (10,0);refine gW (Wk.of (sl:=[(2,some (.ptr 2 0)),(3,some (.ptr 3 0)),(10,some (.lst 1 (ts.map nA))),(11,some (i64 ts.length)),(12,some (i64 i)),(6,some (.ms 27 3 0 (j + 1))),(16,some (nA d)),(17,some (i64 d.length)),(18,some (i64 j))]) (hp:=[(2,some (.box [.v (.slice none 0 0)])),(3,some (.box [.ms 900 1 0 i])),(900,some (.row 1 ((ts.take i).map nA))),(27,some (.row 3 ((d.take (j + 1)).map qA)))]) abj (.cons rfl (.refl _) (.cons rfl (.refl _) (.cons rfl (.refl _) (.cons rfl (BlkSub.of (by rw [aap hq,map_append]; rfl)) .nil))))) ?_ (10,0)
   refine gW (Wk.rekey (k:=27) (d:=901) rfl rfl) ?_;refine ga aa0 ?_;exact gK1 hK2 (j + 1) hjn
  ·have hjn:=aau hj ht19;subst hjn;refine gW ((Wk.freeze (k:=901) rfl).trans <| Wk.of (sl:=[(2,some (.ptr 2 0)),(3,some (.ptr 3 0)),(10,some (.lst 1 (ts.map nA))),(11,some (i64 ts.length)),(12,some (i64 i)),(6,some (nA d))]) (hp:=[(2,some (.box [.v (.slice none 0 0)])),(3,some (.box [.ms 900 1 0 i])),(900,some (.row 1 ((ts.take i).map nA)))]) (.k (.k (.k (.k (.k (.cons rfl (Sub.of (by rw [abu (by simp)]; simp [nA])) .nil)))))) (.cons rfl (.refl _) (.cons rfl (.refl _) (.cons rfl (.refl _) .nil)))) ?_
   refine gs (aa5 (.tmp rfl) rfl (by rw [length_map,length_take]; omega) (.tmp rfl) T34 rfl T46 rfl rfl (by simp only [length_cons,length_nil]; omega) rfl rfl) ?_ (12,0);refine gW (Wk.of (sl:=[(2,some (.ptr 2 0)),(3,some (.ptr 3 0)),(10,some (.lst 1 (ts.map nA))),(11,some (i64 ts.length)),(12,some (i64 i))]) (hp:=[(2,some (.box [.v (.slice none 0 0)])),(3,some (.box [.ms 33 1 0 (i + 1)])),(33,some (.row 1 ((ts.take (i + 1)).map nA)))]) abj (.cons rfl (.refl _) (.cons rfl (.refl _) (.cons rfl (BlkSub.of (by rw [aap hd,map_append]; rfl)) .nil)))) ?_ (12,0);refine gW (Wk.rekey (k:=33) (d:=900) rfl rfl) ?_;refine ga aa0 ?_;exact gK1 hK1 (i + 1) hin
 ·have hin:=aau hi ht13;subst hin;refine gW ((Wk.freeze (k:=900) rfl).trans <| Wk.of (sl:=[(2,some (.ptr 2 0)),(3,some (.ptr 3 0))]) (hp:=[(2,some (.box [.v (.slice none 0 0)])),(3,some (.box [.lst 1 (ts.map nA)]))]) abj (.cons rfl (.refl _) (.cons rfl (BlkSub.boxL (.cons (Sub.of (by rw [abu (by simp)]; simp)) .nil) rfl) .nil))) ?_;refine gE1 ?_;rfl
end Go.Lw
namespace Go.Lw
open Go.Proofs
abbrev fdC (l:Li) (known driven:List Bool) (r:List AV):List AV:=l.av.cells ++ (.lst 1 (known.map bl) :: .lst 1 (driven.map bl) :: r)
theorem a42 (j:Jt) (b:Int):FnC prog 340 [j.av, i64 b] (i64 (aii j b)):=by
 refine gF0 func340 ?_;refine gC (fun ht6=>?_) (fun ht6=>?_)
 ·have h1:b = j.a:=aeq ht6;refine gE1 ?_;unfold aii; rw [if_pos h1]
 ·have h1:b ≠ j.a:=afw ht6;refine gC (fun ht12=>?_) (fun ht12=>?_)
  ·have h2:b = j.b:=aeq ht12;refine gE1 ?_;unfold aii; rw [if_neg h1,if_pos h2]
  ·have h2:b ≠ j.b:=afw ht12;refine gE1 ?_;unfold aii; rw [if_neg h1,if_neg h2]; rfl
theorem a3f (j:Jt) (kind body:Int) (f:FuncId) (pre caps:List AV) (p:Int -> Bool) (hp:0 <= aii j body -> FnC prog f (pre ++ [i64 (aii j body)] ++ caps) (bl (p (aii j body)))) :
  FnC prog 339 [j.av,.iptr [i64 body],.iptr [i64 kind],.iptr [.cl f pre caps]] (bl (bon kind body p j)):=by
 refine gF0 func339 ?_;refine gc (a42 j body) ?_;refine gcG (fun h=>(hp (brg h))) ?_;refine gE1 ?_;exact congrArg bl bk3
theorem aml (bs:List Jt) (hl:bs.length <= 281474976710656) (f:FuncId) (pre caps:List AV) (ok:Nat -> Bool)
  (hf:∀ (i:Nat) (b:Jt),bs[i]? = some b -> (∀ j,j < i -> ok j = true) -> FnC prog f (pre ++ [b.av] ++ caps) (bl (!ok i))) :
  FnC prog 338 [.lst 7 (bs.map Jt.av),.cl f pre caps] (i64 (ixI (acw bs.length ok))):=by
 refine gF0 func338 ?_;refine gl ?_;refine gL1 [0,1,7] [] (fun (i:Nat)=>[(8,some (i64 i))]) (fun _=>[]) (fun i=>i <= bs.length /\ ∀ j,j < i -> ok j = true) (fun i=>bs.length - i) 0 ⟨zero_le _,fun j h=>by omega⟩ ?_;rintro i ⟨hi,hj⟩ K1 hK1;refine gC (fun ht9=>?_) (fun ht9=>?_)
 ·have hin:=abv ht9;obtain ⟨b,hb⟩:=acj hin;refine gi (aai hb) ?_;refine gc (hf i b hb hj) ?_;refine gC (fun ht16=>?_) (fun ht16=>?_)
  ·have h2:=ahu ht16;refine gE1 ?_;rw [acv hin hj h2]; rfl
  ·have h2:=ahv ht16;refine ga aa0 ?_;exact gK1 hK1 (i + 1) ⟨hin,fun j h9=>by rcases lt_or_ge j i with g | g; exact hj j g; (have:j = i:=by omega); subst this; exact h2⟩
 ·have hin:=aau hi ht9;subst hin;refine gE1 ?_;rw [acf hj]; rfl
theorem awm (l:Li) (hl:l.ok) (hli:liE l = 0) (Fd:List AV) (kind body:Int) (f:FuncId) (pre caps:List AV) (p:Int -> Bool)
  (hp:∀ o:Int,0 <= o -> o < l.bodies.length -> FnC prog f (pre ++ [i64 o] ++ caps) (bl (p o))) :
  FnC prog 321 [.iptr (l.av.cells ++ Fd),i64 kind,i64 body,.cl f pre caps] (i64 (gJ l kind body p)):=by
 refine gF0 func321 ?_ (1,0);refine gW ((Wk.freezeB (k:=7) rfl rfl).trans <| (Wk.freezeB (k:=5) rfl rfl).trans <| (Wk.freezeB (k:=6) rfl rfl).trans <| Wk.o (sl:=[(0,some (.iptr (l.av.cells ++ Fd))),(5,some (.iptr [i64 kind])),(6,some (.iptr [i64 body])),(7,some (.iptr [.cl f pre caps]))]) (hp:=[])) ?_;refine gc (Con.subA (.cons (.refl _) (.cons (a81 rfl) .nil)) (aml l.joints hl.lj 339 [] [.iptr [i64 body],.iptr [i64 kind],.iptr [.cl f pre caps]] (fun i=>!bon kind body p (l.joints.getD i default)) (fun i b hb hj=>by rw [Bool.not_not,aag hb]; exact a3f b kind body f pre caps p (fun h=>hp _ h (bb3 hli hb body))))) ?_;refine gE1 ?_;rfl
theorem ayh (l:Li) (known driven:List Bool) (r:List AV) (b:Int) (h0:0 <= b) (h1:b < known.length):FnC prog 336 [.iptr (fdC l known driven r), i64 b] (bl (kn known b)):=by
 obtain ⟨v,hv⟩:∃ v,known[b.toNat]? = some v:=acj (by omega);have ev:kn known b = v:=aag hv;refine gF0 func336 ?_;refine gi (al6 (n:=b.toNat) (by omega) hv) ?_;refine gE1 ?_;rw [ev]
theorem anu (l:Li) (hl:l.ok) (hli:liE l = 0) (known driven:List Bool) (hk:known.length = l.bodies.length) (r:List AV) (kind body:Int) :
  FnC prog 319 [.iptr (fdC l known driven r),i64 kind,i64 body] (i64 (gJ l kind body (kn known))):=by
 refine gF0 func319 ?_;refine gc (awm l hl hli _ kind body 336 [.iptr (fdC l known driven r)] [] (kn known) (fun o h0 h1=>ayh l known driven r o h0 (by omega))) ?_;refine gE1 ?_;rfl
theorem a40 (o j:Int):FnC prog 322 [i64 o, .iptr [i64 j]] (bl (decide (o = j))):=by
 refine gF0 func322 ?_;refine gE1 ?_;exact congrArg bl apl
theorem bcr (l:Li) (known driven:List Bool) (hd:driven.length = known.length) (r:List AV) (b:Int) (h0:0 <= b) (h1:b < known.length) :
  FnC prog 323 [.iptr (fdC l known driven r),i64 b] (bl (!kn known b && !kn driven b)):=by
 obtain ⟨v,hv⟩:∃ v,known[b.toNat]? = some v:=acj (by omega);have ev:kn known b = v:=aag hv;obtain ⟨u,hu⟩:∃ u,driven[b.toNat]? = some u:=acj (by omega);have eu:kn driven b = u:=aag hu;refine gF0 func323 ?_;refine gi (al6 (n:=b.toNat) (by omega) hv) ?_;refine giG (fun _=>(al6 (n:=b.toNat) (by omega) hu)) ?_;refine gE1 ?_;rw [ev,eu]; exact congrArg bl (aee _ _)
end Go.Lw
namespace Go.Lw
open Go.Proofs
theorem a2l (l:Li) (hl:l.ok) (hli:liE l = 0) (known driven:List Bool) (hk:known.length = l.bodies.length) (r:List AV) :
  FnC prog 295 [.iptr (fdC l known driven r)] (.tup [((ab6 l known).getD default).av,bl (ab6 l known).isSome]):=by
 have hld:=hl.ld;refine gF0 func295 ?_;refine gl ?_;refine gL1 [0,2,11,12] [2] (fun (i:Nat)=>[(13,some (i64 i))]) (fun _=>[]) (fun i=>i <= l.drivers.length /\ ∀ j,j < i -> (!aiq l known j) = true) (fun i=>l.drivers.length - i) 0 ⟨zero_le _,fun j h=>by omega⟩ ?_;rintro i ⟨hi,hj⟩ K1 hK1;refine gC (fun ht14=>?_) (fun ht14=>?_)
 ·have hin:=abv ht14;obtain ⟨d,hd⟩:=acj hin;have hdd:l.drivers.getD i default = d:=aag hd;have hb:=afy (a3b hli hd);obtain ⟨v,hv⟩:∃ v,known[d.body.toNat]? = some v:=acj (by omega);have ev:kn known d.body = v:=aag hv;have ej:gJ l 0 d.body (kn known) = abo l 0 d.body known:=be6 hli (fun o _ _=>rfl);refine gi (aai hd) ?_;refine gi (al6 (n:=d.body.toNat) (by omega) hv) ?_;refine gD ?_;refine gC (fun ht25=>?_) (fun ht25=>?_)
  ·have h2 : aiq l known i = false := by unfold aiq; rw [hdd, ev, ht25]; rfl
   refine ga aa0 ?_;exact gK1 hK1 (i + 1) ⟨hin,fun k h9=>by rcases lt_or_ge k i with g | g; exact hj k g; (have:k = i:=by omega); subst this; rw [h2]; rfl⟩
  ·have hv0:v = false:=ht25;refine gc (show FnC _ _ _ (i64 (abo l 0 d.body known)) by rw [<- ej]; exact anu l hl hli known driven hk r 0 d.body) ?_;refine gC (fun ht31=>?_) (fun ht31=>?_)
   ·have h2 : aiq l known i = true := by unfold aiq; rw [hdd, ev, hv0, decide_eq_true (bk5 ht31)]; rfl
    have hg:ab6 l known = some ⟨0,[d.body],[abo l 0 d.body known],i⟩:=by unfold ab6; rw [acv hin hj (by rw [h2]; rfl),<- hdd]; rfl
    refine gE2 ?_;rw [hg]; rfl
   ·have h2 : aiq l known i = false := by unfold aiq; rw [hdd, decide_eq_false (blj ht31), Bool.and_false]
    refine ga aa0 ?_;exact gK1 hK1 (i + 1) ⟨hin,fun k h9=>by rcases lt_or_ge k i with g | g; exact hj k g; (have:k = i:=by omega); subst this; rw [h2]; rfl⟩
 ·have hin:=aau hi ht14;subst hin;have hg:ab6 l known = none:=by unfold ab6; rw [acf hj]; rfl
  refine gR ?_;exact Fin.sub Fin.pure (by rw [hg]; exact Sub.tup (.cons ams (.cons (.refl _) .nil)))
theorem a6y (l:Li) (hli:liE l = 0) (known:List Bool) (hk:known.length = l.bodies.length) (r:List AV) (b:Nat) (h1:b < l.bodies.length) :
  FnC prog 323 [.iptr (fdC l known (aay l) r),i64 b] (bl (agw l known b)):=by
 have h:=bcr l known (aay l) (by rw [ahh,hk]) r b (by omega) (by omega);rw [a8m hli (by omega)] at h;exact h
theorem a0i (l:Li) (hl:l.ok) (hli:liE l = 0) (known:List Bool) (hk:known.length = l.bodies.length) (r:List AV) (kind body:Int) :
  FnC prog 319 [.iptr (fdC l known (aay l) r),i64 kind,i64 body] (i64 (abo l kind body known)):=by
 have h:=anu l hl hli known (aay l) hk r kind body;rw [be6 hli (fun o _ _=>rfl)] at h;exact h
theorem a26 (l:Li) (hl:l.ok) (hli:liE l = 0) (known:List Bool) (hk:known.length = l.bodies.length) (r:List AV) :
  FnC prog 297 [.iptr (fdC l known (aay l) r)] (.tup [((acy l known).getD default).av,bl (acy l known).isSome]):=by
 have h8:=(ab3 hli).2.2.2.1;refine gF0 func297 ?_;refine gl ?_;refine gL1 [0,2,12,13] [2] (fun (i:Nat)=>[(14,some (i64 i))]) (fun _=>[]) (fun i=>i <= l.bodies.length /\ ∀ j,j < i -> (!aio l known j) = true) (fun i=>l.bodies.length - i) 0 ⟨zero_le _,fun j h=>by omega⟩ ?_;rintro i ⟨hi,hj⟩ K1 hK1;refine gC (fun ht15=>?_) (fun ht15=>?_)
 ·have hin:=abv ht15;refine gc (a6y l hli known hk r i hin) ?_;refine gC (fun ht20=>?_) (fun ht20=>?_)
  ·have h2 : aio l known i = false := by unfold aio; rw [ahu ht20]; rfl
   refine ga aa0 ?_;exact gK1 hK1 (i + 1) ⟨hin,fun k h9=>by rcases lt_or_ge k i with g | g; exact hj k g; (have:k = i:=by omega); subst this; rw [h2]; rfl⟩
  ·have hf:=ahv ht20;refine gc (a0i l hl hli known hk r 0 i) ?_;refine gc (a0i l hl hli known hk r 1 i) ?_;refine gC (fun ht32=>?_) (fun ht32=>?_)
   ·have h2 : aio l known i = false := by unfold aio; rw [bl4 ht32, Bool.and_false]
    refine ga aa0 ?_;exact gK1 hK1 (i + 1) ⟨hin,fun k h9=>by rcases lt_or_ge k i with g | g; exact hj k g; (have:k = i:=by omega); subst this; rw [h2]; rfl⟩
   ·obtain ⟨p0, s0⟩:=bll ht32;have s1:=(afp (l:=l) (kind:=1) (body:=i) (oth:=known)).2;have h2:aio l known i = true:=by unfold aio; rw [hf,decide_eq_true p0,decide_eq_true s0]; rfl
    obtain ⟨j,hjt⟩:∃ j,l.joints[(abo l 1 i known).toNat]? = some j:=acj (by omega);have hjd:l.joints.getD (abo l 1 i known).toNat default = j:=aag hjt;have hg:acy l known = some (sgG l known i):=by unfold acy; rw [acv hin hj (by rw [h2]; rfl),Option.map_some]
    refine gi (al6 (n:=(abo l 1 i known).toNat) (by omega) hjt) ?_;refine gC (fun ht43=>?_) (fun ht43=>?_)
    ·have hji:j.a = i:=aeq ht43;refine gE2 ?_;rw [hg]; unfold sgG; rw [hjd]; simp only [Option.getD_some,if_pos hji]; rfl
    ·have hji:j.a ≠ i:=afw ht43;refine gE2 ?_;rw [hg]; unfold sgG; rw [hjd]; simp only [Option.getD_some,if_neg hji]; rfl
 ·have hin:=aau hi ht15;subst hin;have hg:acy l known = none:=by unfold acy; rw [acf hj]; rfl
  refine gR ?_;exact Fin.sub Fin.pure (by rw [hg]; exact Sub.tup (.cons ams (.cons (.refl _) .nil)))
theorem a6o (Fd:List AV):FnC prog 320 [.iptr Fd] (.fn 337 [.iptr [.iptr Fd]]):=by
 refine gF0 func320 ?_ (1,0);refine gW ((Wk.freezeB (k:=1) rfl rfl).trans <| Wk.o (sl:=[(1,some (.iptr [.iptr Fd]))]) (hp:=[])) ?_;refine gE1 ?_;rfl
end Go.Lw
namespace Go.Lw
open Go.Proofs
def bog:Code -> Option (Array Tmp × Code × Code)
  | .rangeFunc _ ps x y=>some (ps,x,y)
  | .seq a b=>match bog a with
    | some r=>some r
    | none=>bog b
  | .block _ c=>bog c
  | _=>none
def rgD (n:Nat) (o:Option Code):LpD:=match o with
  | some c=>match bog c with
    | some (ps,x,y)=>⟨ps,x,y,n⟩
    | none=>⟨#[],.skip,.skip,0⟩
  | none=>⟨#[],.skip,.skip,0⟩
def pb0 (D:LpD) (Fd:List AV) (h:Bool):Blk:=.loop D (match h with | true=>.done | false=>.ready) (match h with | true=>some .ret | false=>none) [(1,some (.iptr [.iptr Fd])),(2,some (.ptr 1001 0)),(3,some (.ptr 1002 0))]
def pb1 (g:Gr):Blk:=.box [i64 g.kind,.lst 1 (g.bodies.map i64),.lst 1 (g.joints.map i64),i64 g.driver]
def pb2 (h:Bool):Blk:=.box [bl h]
def ahd (D:LpD) (Fd:List AV) (h:Bool) (g:Gr):Hp:=[(1000,some (pb0 D Fd h)),(1001,some (pb1 g)),(1002,some (pb2 h))]
theorem bek {D:LpD} {Fd:List AV} {h:Bool} {g:Gr} {k:Nat} {z:Blk} (hz:lk (ahd D Fd h g) k = some z):1000 <= k:=by
 unfold ahd at hz;simp only [aab] at hz;split at hz
 ·omega
 ·split at hz
  ·omega
  ·split at hz
   ·omega
   ·cases hz
theorem a96 {D:LpD} {Fd:List AV} {s:AS} (hs:∀ k z, lk (ahd D Fd false default) k = some z -> s.blk k = some z) :
  ∀ k ∈ (ahd D Fd false default ++ ajd (ahd D Fd false default)).map (·.1),k ∈ (ahd D Fd false default).map (·.1) /\ lk (ahd D Fd false default ++ ajd (ahd D Fd false default)) k = s.blk k:=by
 intro k hk
 have hk':k = 1000 \/ k = 1001 \/ k = 1002:=by
  simp [ahd,ajd] at hk;omega
 rcases hk' with rfl | rfl | rfl
 ·exact ⟨by simp [ahd],(hs _ _ rfl).symm⟩
 ·exact ⟨by simp [ahd],(hs _ _ rfl).symm⟩
 ·exact ⟨by simp [ahd],(hs _ _ rfl).symm⟩
theorem a56 {l:Li} {known:List Bool} {i k:Nat} (h:cond (agw l known i) (agw l known k) false = false):ae9 l known i k = false:=by
 rw [aee] at h;unfold ae9;rw [h]; rfl
theorem bpx {H R:Hp} {k:Nat} {z:Blk} (h:lk H k = some z):lk (H ++ R) k = some z:=by rw [adf,if_pos (aba h)]; exact h
theorem fr1 {a b:Bool} (h:cond a b false = true):a = true:=by cases a <;> simp_all
theorem fr2 {a b:Bool} (h:cond a b false = true):b = true:=by cases a <;> simp_all
theorem a2w (D:LpD) (l:Li) (hl:l.ok) (hli:liE l = 0) (known:List Bool) (hk:known.length = l.bodies.length) (r:List AV)
  (hy:∀ i k:Nat, i < k -> k < l.bodies.length -> agw l known i = true -> agw l known k = true ->
   boe prog 1000 [i64 i,i64 k] (ahd D (fdC l known (aay l) r) false default) (bl (!ae9 l known i k)) (ahd D (fdC l known (aay l) r) (ae9 l known i k) (cond (ae9 l known i k) (prG l known i k) default))) :
  Con prog 337 [.yl 1000,.iptr [.iptr (fdC l known (aay l) r)]] (ahd D (fdC l known (aay l) r) false default) (.tup []) (ahd D (fdC l known (aay l) r) (aet l known).isSome ((aet l known).getD default)):=by
 have h8:=(ab3 hli).2.2.2.1;refine gF func337 (fun k z h=>bek h) ?_;refine gl ?_;refine gL1 [0,1,10] [1000,1001,1002] (fun (i:Nat)=>[(11,some (i64 i))]) (fun _=>[]) (fun i=>i <= l.bodies.length /\ ∀ j,j < i -> (ayq l known j).isNone = true) (fun i=>l.bodies.length - i) 0 ⟨zero_le _,fun j h=>by omega⟩ ?_;rintro i ⟨hi,hj⟩ K1 hK1;refine gC (fun ht12=>?_) (fun ht12=>?_)
 ·have hin:=abv ht12;refine ga aa0 ?_;refine gL1 [0,1,3,10,11] [] (fun (k:Nat)=>[(4,some (i64 (i + 1 + k:Nat)))]) (fun _=>[(1000,some (pb0 D (fdC l known (aay l) r) false)),(1001,some (pb1 default)),(1002,some (pb2 false))]) (fun k=>i + 1 + k <= l.bodies.length /\ ∀ j,j < k -> (!ae9 l known i (i + 1 + j)) = true) (fun k=>l.bodies.length - k) 0 ⟨by omega,fun j h=>by omega⟩ ?_;rintro k ⟨hkl,hkj⟩ K2 hK2;refine gl ?_;refine gC (fun ht23=>?_) (fun ht23=>?_)
  ·have hkn:i + 1 + k < l.bodies.length:=abv ht23;refine gc (a6y l hli known hk r i hin) ?_;refine gcG (fun _=>(a6y l hli known hk r (i + 1 + k) hkn)) ?_;refine gs (a06 rfl rfl rfl (by intro hb; have h0:ae9 l known i (i + 1 + k) = false:=a56 (by simpa using hb); simp only [h0,cond_false]; exact a96 (by intro k z h; exact h)) (fun hb=>bg1 (k:=1000) (.opt rfl (by rw [hb]; rfl)) (hy i (i + 1 + k) (by omega) hkn (fr1 hb) (fr2 hb)) (.cons (.opt rfl (by rw [hb]; rfl)) (.cons (.opt rfl (by rw [hb]; rfl)) .nil)) (by intro k z h; exact h) rfl rfl)) ?_;refine gC (fun ht40=>?_) (fun ht40=>?_)
   ·have h2 : ae9 l known i (i + 1 + k) = true := by have h9 := fr2 ht40; rw [Bool.not_not] at h9; exact h9
    have hat:ayq l known i = some (i + 1 + k):=by unfold ayq; rw [acv (by omega) hkj (by rw [h2]; rfl),Option.map_some]; congr 1; omega
    have hg:aet l known = some (prG l known i (i + 1 + k)):=by unfold aet; rw [acv hin hj (by rw [hat]; rfl),Option.map_some,hat]
    refine gR ?_;simp only [hg,h2,Option.isSome_some,Option.getD_some,cond_true];exact Fin.keep (fun k z h=>bpx h)
   ·have h2 : ae9 l known i (i + 1 + k) = false := by cases hc : cond (agw l known i) (agw l known ((i + 1 + k : Nat) : Int)) false with | false => exact a56 hc | true => rw [hc, Bool.not_not] at ht40; exact ht40
    refine ga aa0 ?_;exact gK1 hK2 (k + 1) ⟨by omega,fun j h9=>by rcases lt_or_ge j k with g | g; exact hkj j g; (have:j = k:=by omega); subst this; rw [h2]; rfl⟩ (hw:=Wk.of abj (.cons rfl (BlkSub.of (by rw [h2])) (.cons rfl (BlkSub.of (by rw [h2]; rfl)) (.cons rfl (BlkSub.of (by rw [h2])) .nil))))
  ·have hkn : ¬ i + 1 + k < l.bodies.length := fun h => by have h1 := a5w ht23; omega
   have hat:ayq l known i = none:=by unfold ayq; rw [show l.bodies.length - (i + 1) = k by omega,acf hkj]; rfl
   refine ga aa0 ?_;exact gK1 hK1 (i + 1) ⟨hin,fun j h9=>by rcases lt_or_ge j i with g | g; exact hj j g; (have:j = i:=by omega); subst this; rw [hat]; rfl⟩
 ·have hin:=aau hi ht12;have hg:aet l known = none:=by unfold aet; rw [<- hin,acf hj]; rfl
  refine gR ?_;simp only [hg,Option.isSome_none,Option.getD_none];exact Fin.keep (fun k z h=>h)
end Go.Lw
namespace Go.Lw
variable {P:Program}
mutual
def AV.pm (σ:Nat -> Nat):AV -> AV
  | .ms k sz off len=>.ms (σ k) sz off len
  | .ptr k off=>.ptr (σ k) off
  | .eptr k sz i off=>.eptr (σ k) sz i off
  | .yl k=>.yl (σ k)
  | .agg cs=>.agg (AV.pms σ cs)
  | .tup cs=>.tup (AV.pms σ cs)
  | .fn f cs=>.fn f (AV.pms σ cs)
  | .opt b x=>.opt b (AV.pm σ x)
  | .v x=>.v x
  | .lst sz l=>.lst sz l
  | .iptr l=>.iptr l
  | .cl f cs ds=>.cl f cs ds
def AV.pms (σ:Nat -> Nat):List AV -> List AV
  | []=>[]
  | x :: l=>AV.pm σ x :: AV.pms σ l
end
theorem AV.pms_eq (σ:Nat -> Nat):∀ l, AV.pms σ l = l.map (AV.pm σ)
 | []=>rfl
 | x :: l=>by simp only [AV.pms,map_cons,AV.pms_eq σ l]
theorem AV.pm_one (σ:Nat -> Nat) (x:AV) (h:x.one = true):(x.pm σ).one = true:=by
 cases x <;> simp only [AV.pm] <;> exact h
mutual
theorem AV.pm_pm {σ:Nat -> Nat} (hσ:∀ k, σ (σ k) = k):∀ x:AV, (x.pm σ).pm σ = x
 | .ms k sz off len=>by simp only [AV.pm,hσ]
 | .ptr k off=>by simp only [AV.pm,hσ]
 | .eptr k sz i off=>by simp only [AV.pm,hσ]
 | .yl k=>by simp only [AV.pm,hσ]
 | .agg cs=>by simp only [AV.pm]; rw [AV.pms_pms hσ cs]
 | .tup cs=>by simp only [AV.pm]; rw [AV.pms_pms hσ cs]
 | .fn f cs=>by simp only [AV.pm]; rw [AV.pms_pms hσ cs]
 | .opt b x=>by simp only [AV.pm]; rw [AV.pm_pm hσ x]
 | .v x=>by simp only [AV.pm]
 | .lst sz l=>by simp only [AV.pm]
 | .iptr l=>by simp only [AV.pm]
 | .cl f cs ds=>by simp only [AV.pm]
theorem AV.pms_pms {σ:Nat -> Nat} (hσ:∀ k, σ (σ k) = k):∀ l:List AV, AV.pms σ (AV.pms σ l) = l
 | []=>by simp only [AV.pms]
 | x :: l=>by simp only [AV.pms]; rw [AV.pm_pm hσ x,AV.pms_pms hσ l]
end
theorem a1q {g:Nat -> Array Value -> Prop} {S:Nat -> Nat -> Prop} {σ:Nat -> Nat} (hσ:∀ k, σ (σ k) = k) {m:Nat -> Option Nat} {v:Value} {x:AV} (h:Rep g S m v x):Rep g S (fun k=>m (σ k)) v (x.pm σ):=by
 induction h with
 | v x=>exact .v x
 | lst0 a cap sz'=>exact .lst0 a cap sz'
 | lst u hb hc hl hs ho hu hr _=>exact .lst u hb hc hl hs ho hu hr
 | iptr u hb ho hu hr _=>exact .iptr u hb ho hu hr
 | cl a b c d _ _=>exact .cl a b c d
 | ptr hm=>exact .ptr (by simp only [hσ]; exact hm)
 | eptr hm=>exact .eptr (by simp only [hσ]; exact hm)
 | yl hm=>exact .yl (by simp only [hσ]; exact hm)
 | ms0 a k sz off=>exact .ms0 _ _ _ _
 | ms hm hc hS=>exact .ms (by simp only [hσ]; exact hm) hc hS
 | opt h h' ih=>exact .opt ih h'
 | agg hn h1 hr ih =>
  simp only [AV.pm,AV.pms_eq];refine .agg (by simpa using hn) ?_ ?_
  ·intro j c hc;simp only [getElem?_map,map_eq_some_iff] at hc;obtain ⟨y,hy,rfl⟩:=hc;exact AV.pm_one _ _ (h1 j y hy)
  ·intro j u c hu hc;simp only [getElem?_map,map_eq_some_iff] at hc;obtain ⟨y,hy,rfl⟩:=hc;exact ih j u y hu hy
 | tup hn hr ih =>
  simp only [AV.pm,AV.pms_eq];refine .tup (by simpa using hn) ?_;intro j u c hu hc;simp only [getElem?_map,map_eq_some_iff] at hc;obtain ⟨y,hy,rfl⟩:=hc;exact ih j u y hu hy
 | fn hn hr ih =>
  simp only [AV.pm,AV.pms_eq];refine .fn (by simpa using hn) ?_;intro j u c hu hc;simp only [getElem?_map,map_eq_some_iff] at hc;obtain ⟨y,hy,rfl⟩:=hc;exact ih j u y hu hy
theorem bk1 {g:Nat -> Array Value -> Prop} {S:Nat -> Nat -> Prop} {σ:Nat -> Nat} (hσ:∀ k, σ (σ k) = k) {m:Nat -> Option Nat} {w:World} {o:Option Nat} {x:Blk} (h:BlkRep g S m w o x) :
  BlkRep g S (fun k=>m (σ k)) w o (x.map (AV.pm σ)):=by
 cases x with
 | row sz es=>exact h.mono (fun _ _ h=>h) (fun _ _ h=>h) (fun _ _ hk=>hk.elim) rfl (fun _ _=>rfl)
 | vec vs=>exact h.mono (fun _ _ h=>h) (fun _ _ h=>h) (fun _ _ hk=>hk.elim) rfl (fun _ _=>rfl)
 | loop=>exact h.mapLoop _ (fun _ _ _ _ h=>a1q hσ h)
 | box cs =>
  cases h with
  | box hw hn h1 hrr =>
   refine .box hw (by simpa using hn) ?_ ?_
   ·intro j x hx;simp only [getElem?_map,map_eq_some_iff] at hx;obtain ⟨y,hy,rfl⟩:=hx;exact AV.pm_one _ _ (h1 j y hy)
   ·intro j u x hu hx;simp only [getElem?_map,map_eq_some_iff] at hx;obtain ⟨y,hy,rfl⟩:=hx;exact a1q hσ (hrr j u y hu hy)
theorem bfy {σ:Nat -> Nat} (hσ:∀ k, σ (σ k) = k):∀ sl:abw, akp (AV.pm σ) (akp (AV.pm σ) sl) = sl
 | []=>rfl
 | (t,none) :: l=>by simp only [akp,bfy hσ l]
 | (t,some x) :: l=>by simp only [akp,bfy hσ l,AV.pm_pm hσ x]
theorem Blk.pm_pm {σ:Nat -> Nat} (hσ:∀ k, σ (σ k) = k) (x:Blk):(x.map (AV.pm σ)).map (AV.pm σ) = x:=by
 cases x with
 | row sz es=>rfl
 | vec vs=>rfl
 | loop d st pe sl=>simp only [Blk.map,bfy hσ]
 | box cs =>
  simp only [Blk.map];rw [<- AV.pms_eq,<- AV.pms_eq,AV.pms_pms hσ]
def pmH (σ:Nat -> Nat):Hp -> Hp
  | []=>[]
  | (k,x) :: l=>(σ k,match x with | some b=>some (b.map (AV.pm σ)) | none=>none) :: pmH σ l
theorem aki {σ:Nat -> Nat} (hσ:∀ k, σ (σ k) = k):∀ (H:Hp) (k:Nat), lk (pmH σ H) k = (lk H (σ k)).map (Blk.map (AV.pm σ))
 | [],k=>rfl
 | (k', x) :: l, k=>by
  simp only [pmH,aab,aki hσ l k]
  by_cases h:k = σ k'
  ·rw [if_pos h, if_pos (by rw [h, hσ])];cases x <;> rfl
  ·rw [if_neg h,if_neg (fun e=>h (by rw [<- e,hσ]))]
theorem a66 {σ:Nat -> Nat} (hσ:∀ k, σ (σ k) = k) (H:Hp) (m:Nat -> Option Nat):Own (pmH σ H) (fun k=>m (σ k)) = Own H m:=by
 funext b;apply propext;constructor
 ·rintro ⟨k, z, hz, hb⟩;rw [aki hσ,map_eq_some_iff] at hz;obtain ⟨y,hy,rfl⟩:=hz;exact ⟨σ k,y,hy,hb⟩
 ·rintro ⟨k, y, hy, hb⟩;exact ⟨σ k,y.map (AV.pm σ),by rw [aki hσ,hσ,hy]; rfl,by simp only [hσ]; exact hb⟩
theorem a5t {σ:Nat -> Nat} (hσ:∀ k, σ (σ k) = k) {ext:Nat -> Prop} {H:Hp} {m:Nat -> Option Nat} {w:World} (h:HeapRel ext H m w):HeapRel ext (pmH σ H) (fun k=>m (σ k)) w:=by
 have e:Im ext (pmH σ H) (fun k=>m (σ k)) w = Im ext H m w:=by funext b cs; simp only [Im,a66 hσ]
 refine ⟨?_,?_,?_⟩
 ·intro k z hz;rw [aki hσ,map_eq_some_iff] at hz;obtain ⟨y,hy,rfl⟩:=hz;rw [e];exact bk1 hσ (h.blk _ y hy)
 ·intro k k' z z' b hz hz' hb hb';rw [aki hσ,map_eq_some_iff] at hz hz';obtain ⟨y,hy,_⟩:=hz;obtain ⟨y',hy',_⟩:=hz';have:=h.inj _ _ y y' b hy hy' hb hb';rw [<- hσ k,this,hσ]
 ·intro k z b hz hb;rw [aki hσ,map_eq_some_iff] at hz;obtain ⟨y,hy,_⟩:=hz;exact h.sep _ y b hy hb
theorem Con.pm {σ:Nat -> Nat} (hσ:∀ k, σ (σ k) = k) {f:FuncId} {args:List AV} {H H':Hp} {r:AV} (h:Con P f args H r H'):Con P f (args.map (AV.pm σ)) (pmH σ H) (r.pm σ) (pmH σ H'):=by
 refine ⟨h.ok,?_⟩;intro ext m w vs hext hheap hvs hrep
 have hlk:∀ k, lk (pmH σ (pmH σ H)) k = lk H k:=by
  intro k;rw [aki hσ,aki hσ,hσ];cases lk H k with
  | none=>rfl
  | some y=>simp only [Option.map_some,Blk.pm_pm hσ]
 have hh:=HeapRel.congr hlk (a5t hσ hheap);have em:(fun k=>(fun k=>m (σ k)) (σ k)) = m:=by funext k; simp only [hσ]
 have eo:Own (pmH σ H) m = Own H (fun k=>m (σ k)):=by
  have:=a66 hσ H (fun k=>m (σ k));rw [em] at this; exact this
 have ei:Im ext (pmH σ H) m w = Im ext H (fun k=>m (σ k)) w:=by funext b cs; simp only [Im,eo]
 refine Calls.mono (h.ret ext (fun k=>m (σ k)) w vs hext hh (by simpa using hvs) (fun j v x hv hx=>?_)) ?_
 ·have h1 := hrep j v (x.pm σ) hv (by simp [hx]);have h2:=a1q hσ h1;rw [AV.pm_pm hσ,ei] at h2;exact h2
 ·rintro e w' ⟨v, m', rfl, hf, hh', hn, hk, hrr⟩;refine ⟨v,fun k=>m' (σ k),rfl,eo ▸ hf,a5t hσ hh',?_,?_,?_⟩
  ·intro k x b hx hb;rw [aki hσ,map_eq_some_iff] at hx;obtain ⟨y,hy,_⟩:=hx;rw [eo];exact hn _ y b hy hb
  ·intro k x y hx hy;rw [aki hσ,map_eq_some_iff] at hx hy;obtain ⟨x',hx',_⟩:=hx;obtain ⟨y',hy',_⟩:=hy;have:=hk _ x' y' hx' hy';simpa only [hσ] using this
  ·have e2 : Im ext (pmH σ H') (fun k => m' (σ k)) w' = Im ext H' m' w' := by funext b cs; simp only [Im, a66 hσ]
   rw [e2];exact a1q hσ hrr
end Go.Lw
namespace Go.Lw
open Go.Proofs
theorem gZ {P:Program} {N:Nat} {Q:Exit -> AS -> Prop} {c:Code} {s:AS} (h:Gd P N Q (.code c [] s)):AWP P N c Q s:=h
theorem ayr {P:Program} {N:Nat} {Q:Exit -> AS -> Prop} {c:Code} {s s':AS} (hw:Wk s s') (h:a4b P N c Q s'):a4b P N c Q s:=by
 intro C m a w n hro hN hr;obtain ⟨m',hr'⟩:=hw C m a w hr;exact h C m' a w n hro hN hr'
def swp (k:Nat):Nat:=bif Nat.beq k 1000 then 900 else bif Nat.beq k 900 then 1000 else bif Nat.beq k 1001 then 2 else bif Nat.beq k 2 then 1001 else bif Nat.beq k 1002 then 3 else bif Nat.beq k 3 then 1002 else k
theorem nb {a b:Nat} (h:¬ a = b):Nat.beq a b = false:=by
 cases h1:Nat.beq a b
 ·rfl
 ·exact absurd (eq_of_beq_eq_true h1) h
theorem bfd (k:Nat):swp (swp k) = k:=by
 by_cases h1:k = 1000
 ·subst h1; rfl
 by_cases h2:k = 900
 ·subst h2; rfl
 by_cases h3:k = 1001
 ·subst h3; rfl
 by_cases h4:k = 2
 ·subst h4; rfl
 by_cases h5:k = 1002
 ·subst h5; rfl
 by_cases h6:k = 3
 ·subst h6; rfl
 have e:swp k = k:=by simp only [swp,nb h1,nb h2,nb h3,nb h4,nb h5,nb h6,cond_false]
 rw [e,e]
theorem bb1 (l:Li) (hl:l.ok) (hli:liE l = 0) (known:List Bool) (hk:known.length = l.bodies.length) (r:List AV) :
  FnC prog 296 [.iptr (fdC l known (aay l) r)] (.tup [((aet l known).getD default).av,bl (aet l known).isSome]):=by
 refine a4o (rs:=Tryz.f296.results.toList) func296 rfl rfl (by simp) rfl (fun k z h=>by cases h) ?_;refine at3 (gZ (go ?_));refine ayr (s':=⟨[(1,some (.iptr [.iptr (fdC l known (aay l) r)])),(2,some (.ptr 2 0)),(3,some (.ptr 3 0))],[(2,some (pb1 default)),(3,some (pb2 false))]⟩) ((Wk.freezeB (k:=1) rfl rfl).trans (Wk.of (.cons rfl (.refl _) (.cons rfl (.refl _) (.cons rfl (.refl _) .nil))) (.cons rfl (BlkSub.boxL (.cons (.refl _) (.cons (.nil _ _ _) (.cons (.nil _ _ _) (.cons (.refl _) .nil)))) rfl) (.cons rfl (.refl _) .nil)))) ?_
 refine a6m ?_;refine at3 (gZ (go ?_));refine gc (a6o (fdC l known (aay l) r)) ?_;refine a29 ?_
 have hy:∀ i k:Nat, i < k -> k < l.bodies.length -> agw l known i = true -> agw l known k = true ->
   boe prog 1000 [i64 i,i64 k] (ahd (rgD Tryz.f296.ntmps Tryz.f296.body) (fdC l known (aay l) r) false default) (bl (!ae9 l known i k)) (ahd (rgD Tryz.f296.ntmps Tryz.f296.body) (fdC l known (aay l) r) (ae9 l known i k) (cond (ae9 l known i k) (prG l known i k) default)):=by
  intro i k hik hkn hfi hfk;refine be3 (k:=1000) (fun k z h=>bek h) rfl rfl (by intro p hp; have h9:p ∈ [11,12]:=hp; have h8:p = 11 \/ p = 12:=(by simpa using h9); show p < 42; rcases h8 with h7 | h7 <;> (rw [h7]; decide)) ?_;refine gZ (go ?_);refine ⟨rfl,_,_,rfl,?_⟩;have hJ:gJ l 0 i (fun o=>decide (o = (k:Int))) = abo l 0 i (aeg l.bodies.length k):=be6 hli (fun o h0 h1=>(ay9 h0 (by omega) (by omega)).symm);refine gZ (go ?_);refine gc (a0i l hl hli known hk r 0 i) ?_;refine gc (a0i l hl hli known hk r 0 k) ?_;refine gD ?_ (5,0);refine gW (Wk.freezeB (k:=5) rfl rfl) ?_;refine gc (r:=i64 (abo l 0 i (aeg l.bodies.length k))) (by rw [<- hJ]; exact Con.subA (.cons (.refl _) (.cons (.refl _) (.cons (.refl _) (.cons (a81 rfl) .nil)))) (awm l hl hli _ 0 i 322 [] [.iptr [i64 k]] (fun o=>decide (o = (k:Int))) (fun o h0 h1=>a40 o k))) ?_;refine gC (fun ht=>?_) (fun ht=>?_)
  ·have h2 : ae9 l known i k = true := by unfold ae9; rw [hfi, hfk]; exact (asr.symm.trans ht)
   rw [h2];exact ⟨_,_,rfl,Fin.keep (by intro q z h; simp only [ahd,aab] at h; split at h; (subst_vars; exact h); split at h; (subst_vars; exact h); split at h; (subst_vars; exact h); cases h)⟩
  ·have h2 : ae9 l known i k = false := by unfold ae9; rw [hfi, hfk]; exact (asr.symm.trans ht)
   rw [h2];exact ⟨_,_,rfl,Fin.keep (by intro q z h; simp only [ahd,aab] at h; split at h; (subst_vars; exact h); split at h; (subst_vars; exact h); split at h; (subst_vars; exact h); cases h)⟩
 have hcon:=Con.pm bfd (a2w _ l hl hli known hk r hy);cases hg:aet l known with
 | none =>
  rw [hg] at hcon;refine arm (k:=900) (sl0:=[(1,some (.iptr [.iptr (fdC l known (aay l) r)])),(2,some (.ptr 2 0)),(3,some (.ptr 3 0))]) (.tmp rfl) (by intro t x h; simp only [aab] at h; split at h; (subst_vars; exact h); split at h; (subst_vars; exact h); split at h; (subst_vars; exact h); cases h) rfl rfl hcon (fun k' z h=>h) rfl rfl rfl rfl (by intro h; cases h) (.inl ⟨rfl,?_⟩);refine at3 (gZ (go ?_));refine AWP.out (gZ (go ?_));refine gR ?_;exact Fin.sub Fin.pure (Sub.tup (.cons ams (.cons (.refl _) .nil)))
 | some g =>
  rw [hg] at hcon;refine arm (k:=900) (sl0:=[(1,some (.iptr [.iptr (fdC l known (aay l) r)])),(2,some (.ptr 2 0)),(3,some (.ptr 3 0))]) (.tmp rfl) (by intro t x h; simp only [aab] at h; split at h; (subst_vars; exact h); split at h; (subst_vars; exact h); split at h; (subst_vars; exact h); cases h) rfl rfl hcon (fun k' z h=>h) rfl rfl rfl rfl (by intro h; cases h) (.inr ⟨rfl,?_⟩);exact (gE2 (P:=prog) (N:=Tryz.f296.ntmps) (e:=.ret) rfl)
end Go.Lw
namespace Go.Lw
open Go.Proofs
theorem axl {α:Type} {o:Option α} (h:o.isSome = true):∃ x,o = some x:=by cases o <;> simp_all
theorem ayg {α:Type} {o:Option α} (h:o.isSome = false):o = none:=by cases o <;> simp_all
theorem bci (l:Li) (hl:l.ok) (hli:liE l = 0) (known:List Bool) (hk:known.length = l.bodies.length) (r:List AV) :
  FnC prog 240 [.iptr (fdC l known (aay l) r)] (.tup [((adq l known).getD default).av,bl (adq l known).isSome]):=by
 refine gF0 func240 ?_;refine gc (a2l l hl hli known (aay l) hk r) ?_;refine gC (fun ht13=>?_) (fun ht13=>?_)
 ·obtain ⟨g, hg⟩:=axl ht13;refine gE2 ?_;unfold adq; rw [hg]; rfl
 ·have hg:=ayg ht13;refine gc (bb1 l hl hli known hk r) ?_;refine gC (fun ht20=>?_) (fun ht20=>?_)
  ·obtain ⟨g, hg2⟩:=axl ht20;refine gE2 ?_;unfold adq; rw [hg,hg2]; rfl
  ·have hg2:=ayg ht20;refine gc (a26 l hl hli known hk r) ?_;refine gE2 ?_;unfold adq; rw [hg,hg2]; rfl
end Go.Lw
namespace Go.Lw
open Go.Proofs
theorem asa {ts:List (List Rat)} {r e:Nat} (tw:Tw ts r) {a b c d:List Rat} (ha:Nm ts.length e a) (hb:Nm ts.length e b) (hc:Nm ts.length e c) (hd:Nm ts.length e d) (he:2 * e <= lm ts.length) :
  Con prog 144 [.ptr 1000 0,ptA a b,ptA c d] [(1000,some (aw9 ts))] (ptA (sh ts.length (subT ts (dec ts.length a) (dec ts.length c))) (sh ts.length (subT ts (dec ts.length b) (dec ts.length d)))) [(1000,some (aw9 ts))]:=by
 refine gF func144 (fun k z h=>aaz h) ?_;refine gt (aad (als tw ha hc (by omega)) (.cons (.tmp rfl) (.cons (.tmp rfl) (.cons (.tmp rfl) .nil))) (by first | exact hH0 | exact hH1 rfl | exact hH2 rfl rfl) rfl rfl) ?_;refine gt (aad (als tw hb hd (by omega)) (.cons (.tmp rfl) (.cons (.tmp rfl) (.cons (.tmp rfl) .nil))) (by first | exact hH0 | exact hH1 rfl | exact hH2 rfl rfl) rfl rfl) ?_;refine gD ?_;refine gR ?_;exact Fin.keep (abm rfl)
theorem auw (R:List AV) (a:List Rat):Con prog 232 [.ptr 1000 0, nA a] [(1000, some (.box [.lst 1 R, .v .nilIface]))] (.tup [nA a, .v .nilIface]) [(1000, some (.box [.lst 1 R, .v .nilIface]))]:=by
 refine gF func232 (fun k z h=>aaz h) ?_;refine gC (fun ht10=>?_) (fun ht10=>?_) (st1:=(2,0))
 ·cases ht10
 ·refine gR ?_;show Fin _ (AV.tup [nA a,.v .nilIface]) _ _;exact Fin.keep (abm rfl)
theorem ahx (R:List AV) (a b:List Rat):Con prog 143 [.ptr 1000 0, ptA a b] [(1000, some (.box [.lst 1 R, .v .nilIface]))] (.tup [ptA a b, .v .nilIface]) [(1000, some (.box [.lst 1 R, .v .nilIface]))]:=by
 refine gF func143 (fun k z h=>aaz h) ?_;refine gC (fun ht10=>?_) (fun ht10=>?_) (st1:=(2,0))
 ·cases ht10
 ·refine gR ?_;show Fin _ (AV.tup [ptA a b,.v .nilIface]) _ _;exact Fin.keep (abm rfl)
theorem ai6 {ts:List (List Rat)} {r e:Nat} (tw:Tw ts r) {a b c d:List Rat} (ha:Nm ts.length e a) (hb:Nm ts.length e b) (hc:Nm ts.length e c) (hd:Nm ts.length e d) (he:e <= lm ts.length) (f:FuncId) (v:List Rat)
  (hf:Con prog f [.ptr 1000 0,ptA a b,ptA c d] [(1000,some (aw9 ts))] (nA v) [(1000,some (aw9 ts))]) :
  FnC prog 145 [acm ts,ptA a b,ptA c d,.fn f []] (.tup [nA v,.v .nilIface]):=by
 refine gF0 func145 ?_;refine gc (ade (e:=e) tw [(a,b),(c,d)] (by simp only [mem_cons,not_mem_nil,or_false]; rintro p (rfl | rfl); exact ⟨ha,hb⟩; exact ⟨hc,hd⟩) he (by simp)) ?_;refine gC (fun ht18=>?_) (fun ht18=>?_) (st1:=(3,0))
 ·cases ht18
 ·refine gs (a6z (.tmp rfl) (show Con prog f ([.ptr 22 0, ptA a b, ptA c d] ++ []) [(22, some (aw9 ts))] (nA v) [(22, some (aw9 ts))] from Con.rekeyB 22 rfl rfl rfl rfl hf) (.cons (.tmp rfl) (.cons (.tmp rfl) (.cons (.tmp rfl) .nil))) (by first | exact hH0 | exact hH1 rfl | exact hH2 rfl rfl) rfl rfl) ?_;refine gt (aad (Con.rekeyB 22 rfl rfl rfl rfl (auw _ _)) (.cons (.tmp rfl) (.cons (.tmp rfl) .nil)) (by first | exact hH0 | exact hH1 rfl | exact hH2 rfl rfl) rfl rfl) ?_;refine gE2 ?_;rfl
theorem akq {ts:List (List Rat)} {r e:Nat} (tw:Tw ts r) {a b c d:List Rat} (ha:Nm ts.length e a) (hb:Nm ts.length e b) (hc:Nm ts.length e c) (hd:Nm ts.length e d) (he:2 * (e + e + kB r ts.length) <= lm ts.length) :
  FnC prog 64 [acm ts,ptA a b,ptA c d] (.tup [nA (sh ts.length (bi7 ts (dec ts.length a) (dec ts.length b) (dec ts.length c) (dec ts.length d))),.v .nilIface]):=by
 refine gF0 func64 ?_;refine gc (Con.subA (.cons (.refl _) (.cons (.refl _) (.cons (.refl _) (.cons (Sub.fn0 _) .nil)))) (ai6 tw ha hb hc hd (by omega) _ _ (avx tw ha hb hc hd he))) ?_;refine gE2 ?_
 first | rfl | (simp; done)
theorem anr {ts:List (List Rat)} {r e:Nat} (tw:Tw ts r) {a b c d:List Rat} (ha:Nm ts.length e a) (hb:Nm ts.length e b) (hc:Nm ts.length e c) (hd:Nm ts.length e d) (he:2 * (e + e + kB r ts.length) <= lm ts.length) :
  FnC prog 171 [acm ts,nA a,nA b,ptA c d] (.tup [ptA (sh ts.length (a8l ts (dec ts.length a) (dec ts.length b) (dec ts.length c) (dec ts.length d))) (sh ts.length (a83 ts (dec ts.length a) (dec ts.length b) (dec ts.length c) (dec ts.length d))),.v .nilIface]):=by
 refine gF0 func171 ?_;refine gc (afz (e:=e) tw [a,b,c,d] (by simp only [mem_cons,not_mem_nil,or_false]; rintro x (rfl | rfl | rfl | rfl) <;> assumption) (by omega) (by simp)) ?_;refine gC (fun ht22=>?_) (fun ht22=>?_) (st1:=(3,0))
 ·cases ht22
 ·refine gt (aad (Con.rekeyB 27 rfl rfl rfl rfl (aec tw ha hc (by omega))) (.cons (.tmp rfl) (.cons (.tmp rfl) (.cons (.tmp rfl) .nil))) (by first | exact hH0 | exact hH1 rfl | exact hH2 rfl rfl) rfl rfl) ?_;refine gt (aad (Con.rekeyB 27 rfl rfl rfl rfl (aec tw hb hd (by omega))) (.cons (.tmp rfl) (.cons (.tmp rfl) (.cons (.tmp rfl) .nil))) (by first | exact hH0 | exact hH1 rfl | exact hH2 rfl rfl) rfl rfl) ?_;refine gt (aad (Con.rekeyB 27 rfl rfl rfl rfl (ath ▸ als tw (ha.mul tw rfl hc) (hb.mul tw rfl hd) (by omega))) (.cons (.tmp rfl) (.cons (.tmp rfl) (.cons (.tmp rfl) .nil))) (by first | exact hH0 | exact hH1 rfl | exact hH2 rfl rfl) rfl rfl) ?_;refine gt (aad (Con.rekeyB 27 rfl rfl rfl rfl (aec tw hb hc (by omega))) (.cons (.tmp rfl) (.cons (.tmp rfl) (.cons (.tmp rfl) .nil))) (by first | exact hH0 | exact hH1 rfl | exact hH2 rfl rfl) rfl rfl) ?_;refine gt (aad (Con.rekeyB 27 rfl rfl rfl rfl (aec tw ha hd (by omega))) (.cons (.tmp rfl) (.cons (.tmp rfl) (.cons (.tmp rfl) .nil))) (by first | exact hH0 | exact hH1 rfl | exact hH2 rfl rfl) rfl rfl) ?_;refine gt (aad (Con.rekeyB 27 rfl rfl rfl rfl (a5s ▸ al5 tw (hb.mul tw rfl hc) (ha.mul tw rfl hd) (by omega))) (.cons (.tmp rfl) (.cons (.tmp rfl) (.cons (.tmp rfl) .nil))) (by first | exact hH0 | exact hH1 rfl | exact hH2 rfl rfl) rfl rfl) ?_;refine gt (aad (Con.rekeyB 27 rfl rfl rfl rfl (ahx _ _ _)) (.cons (.tmp rfl) (.cons (.tmp rfl) .nil)) (by first | exact hH0 | exact hH1 rfl | exact hH2 rfl rfl) rfl rfl) ?_;refine gD ?_;refine gE2 ?_;rfl
theorem ayi {ts:List (List Rat)} {r e:Nat} (tw:Tw ts r) {a b c d:List Rat} (ha:Nm ts.length e a) (hb:Nm ts.length e b) (hc:Nm ts.length e c) (hd:Nm ts.length e d) (he:2 * e <= lm ts.length) :
  FnC prog 291 [acm ts,ptA a b,ptA c d] (.tup [ptA (sh ts.length (T.add ts.length (dec ts.length a) (dec ts.length c))) (sh ts.length (T.add ts.length (dec ts.length b) (dec ts.length d))),.v .nilIface]):=by
 refine gF0 func291 ?_;refine gc (ade (e:=e) tw [(a,b),(c,d)] (by simp only [mem_cons,not_mem_nil,or_false]; rintro p (rfl | rfl); exact ⟨ha,hb⟩; exact ⟨hc,hd⟩) (by omega) (by simp)) ?_;refine gC (fun ht16=>?_) (fun ht16=>?_) (st1:=(3,0))
 ·cases ht16
 ·refine gt (aad (Con.rekeyB 21 rfl rfl rfl rfl (al5 tw ha hc (by omega))) (.cons (.tmp rfl) (.cons (.tmp rfl) (.cons (.tmp rfl) .nil))) (by first | exact hH0 | exact hH1 rfl | exact hH2 rfl rfl) rfl rfl) ?_;refine gt (aad (Con.rekeyB 21 rfl rfl rfl rfl (al5 tw hb hd (by omega))) (.cons (.tmp rfl) (.cons (.tmp rfl) (.cons (.tmp rfl) .nil))) (by first | exact hH0 | exact hH1 rfl | exact hH2 rfl rfl) rfl rfl) ?_;refine gt (aad (Con.rekeyB 21 rfl rfl rfl rfl (ahx _ _ _)) (.cons (.tmp rfl) (.cons (.tmp rfl) .nil)) (by first | exact hH0 | exact hH1 rfl | exact hH2 rfl rfl) rfl rfl) ?_;refine gD ?_;refine gE2 ?_;rfl
theorem ajr {x y:Rat} (hx:Qs x) (hy:Qs y):FnC prog 79 [qA x, qA y] (ptA (sh 0 (x:Rat)) (sh 0 (y:Rat))):=by
 refine gF0 func79 ?_;refine gc (axv hx) ?_;refine gc (axv hy) ?_;refine gD ?_;refine gE1 ?_
 first | rfl | (simp; done)
theorem a2n {ts:List (List Rat)} {r e:Nat} (tw:Tw ts r) {a b c d:List Rat} (ha:Nm ts.length e a) (hb:Nm ts.length e b) (hc:Nm ts.length e c) (hd:Nm ts.length e d) {x y:Rat} (hx:Qb e x) (hy:Qb e y) (he:8 * e + 4 * kB r ts.length + 4 <= lm ts.length) :
  FnC prog 230 [acm ts,.agg [nA a,nA b,nA c,nA d],qA x,qA y] (.tup [ptA (sh ts.length (atX ts (dec ts.length a) (dec ts.length b) (dec ts.length c) x y)) (sh ts.length (atY ts (dec ts.length a) (dec ts.length b) (dec ts.length d) x y)),.v .nilIface]):=by
 have hlm:=aq5 ts.length;have nx:=Nm.ofQ ha.five (Cb.one hx);have ny:=Nm.ofQ ha.five (Cb.one hy);have nX:=atl tw ha hb nx ny;have nY:=atf tw ha hb nx ny;have z1:e <= 2 * (e + e + kB r ts.length) + 1:=by omega
 have z2:2 * (2 * (e + e + kB r ts.length) + 1) <= lm ts.length:=bhp he;have hadd:=ayi tw nX nY (hc.mono z1) (hd.mono z1) z2;refine gF0 func230 ?_;refine gc (afz (e:=e) tw [a,b,c,d] (by simp only [mem_cons,not_mem_nil,or_false]; rintro x (rfl | rfl | rfl | rfl) <;> assumption) (by omega) (by simp)) ?_;refine gC (fun ht25=>?_) (fun ht25=>?_) (st1:=(3,0))
 ·cases ht25
 ·refine gc (ajr (hx.qs (by omega)) (hy.qs (by omega))) ?_;refine gc (anr tw ha hb nx ny (by omega)) ?_;refine gD ?_;refine gC (fun ht41=>?_) (fun ht41=>?_) (st1:=(6,0))
  ·cases ht41
  ·refine gc hadd ?_;refine gE2 ?_;rw [bd7,bd8]; rfl
end Go.Lw
namespace Go.Lw
open Go.Proofs
theorem ae4 {ts:List (List Rat)} {r e f:Nat} (tw:Tw ts r) {a b:List Rat} (ha:Nm ts.length e a) (hb:Nm ts.length f b) (he:e + f + 1 <= lm ts.length):FnC prog 20 [acm ts, nA a, nA b] (bl (eqT ts (dec ts.length a) (dec ts.length b))):=by
 refine gF0 func20 ?_;refine gc (bl8 tw ha hb he) ?_;refine gE1 ?_;exact congrArg bl (bf7 _)
theorem an7 {ts:List (List Rat)} {r e:Nat} (tw:Tw ts r) {a b c d p q u v:List Rat} (ha:Nm ts.length e a) (hb:Nm ts.length e b) (hc:Nm ts.length e c) (hd:Nm ts.length e d) (hp:Nm ts.length e p) (hq:Nm ts.length e q) (hu:Nm ts.length e u) (hv:Nm ts.length e v) (he:2 * e + 1 <= lm ts.length) :
  FnC prog 46 [acm ts,.agg [nA a,nA b,nA c,nA d],.agg [nA p,nA q,nA u,nA v]] (bl (eqT ts (dec ts.length a) (dec ts.length p) && eqT ts (dec ts.length b) (dec ts.length q) && eqT ts (dec ts.length c) (dec ts.length u) && eqT ts (dec ts.length d) (dec ts.length v))):=by
 refine gF0 func46 ?_;refine gc (ae4 tw ha hp (by omega)) ?_;refine gcG (fun _=>(ae4 tw hb hq (by omega))) ?_;refine gcG (fun _=>(ae4 tw hc hu (by omega))) ?_;refine gcG (fun _=>(ae4 tw hd hv (by omega))) ?_;refine gE1 ?_;exact congrArg bl (a5p _ _ _ _)
end Go.Lw
namespace Go.Lw
open Go.Proofs
def u8 (n:Nat):AV:=.v (.int .u8 n)
theorem ayy {p q:Bool} {a b:Nat} {c:Nat} (hp:p = decide (a <= c)) (hq:q = decide (c <= b)):cond p q false = decide (a <= c /\ c <= b):=by
 subst hp; subst hq
 by_cases h:a <= c
 ·simp [h]
 ·simp [h]
theorem bf6 (c k:Nat):aaa .geq (c:Int) (k:Int) = decide (k <= c):=by simp only [aaa,decide_eq_decide]; omega
theorem bfr (c k:Nat):aaa .leq (c:Int) (k:Int) = decide (c <= k):=by simp only [aaa,decide_eq_decide]; omega
theorem bcf (c:Nat):cond (cond (aaa .geq (c:Int) 97) (aaa .leq (c:Int) 122) false) true (cond (aaa .geq (c:Int) 65) (aaa .leq (c:Int) 90) false) = afe c:=by
 have e1:cond (aaa .geq (c:Int) 97) (aaa .leq (c:Int) 122) false = decide (97 <= c /\ c <= 122):=ayy (bf6 c 97) (bfr c 122);have e2:cond (aaa .geq (c:Int) 65) (aaa .leq (c:Int) 90) false = decide (65 <= c /\ c <= 90):=ayy (bf6 c 65) (bfr c 90);rw [e1,e2];unfold afe;cases decide (97 <= c /\ c <= 122) <;> rfl
theorem bim (c:Nat):cond (aaa .geq (c:Int) 48) (aaa .leq (c:Int) 57) false = auy c:=ayy (bf6 c 48) (bfr c 57)
theorem bkc (c:Nat):cond (cond (afe c) true (auy c)) true (aaa .eql (c:Int) 95) = as7 c:=by
 unfold as7
 have:aaa .eql (c:Int) 95 = decide (c = 95):=by
  rw [Bool.eq_iff_iff]; simp only [aaa,beq_iff_eq,decide_eq_true_eq]; omega
 rw [this];cases afe c <;> cases auy c <;> rfl
theorem aj7 (c:Nat):FnC prog 324 [u8 c] (bl (afe c)):=by
 refine gF0 func324 ?_;refine gE1 ?_;exact congrArg bl (bcf c)
theorem at6 (c:Nat):FnC prog 341 [u8 c] (bl (auy c)):=by
 refine gF0 func341 ?_;refine gE1 ?_;exact congrArg bl (bim c)
theorem avz (c:Nat):FnC prog 325 [u8 c] (bl (as7 c)):=by
 refine gF0 func325 ?_;refine gc (aj7 c) ?_;refine gcG (fun _=>(at6 c)) ?_;refine gE1 ?_;exact congrArg bl (bkc c)
theorem awn (s:ByteArray) (hs:s.size <= 281474976710656):FnC prog 300 [.v (.string s)] (i64 (agp s)):=by
 refine gF0 func300 ?_;refine gs (abx rfl rfl rfl (fun h=>aob (.opt rfl (o1 h)) (.const _) T9 rfl (by omega) (by have:=a84 h; omega) rfl)) ?_;refine gcG (fun _=>(aj7 (ail s 0))) ?_;refine gC (fun ht11=>?_) (fun ht11=>?_)
 ·have h0:agp s = 0:=a85 ht11;refine gE1 ?_;rw [h0]; rfl
 ·obtain ⟨h0, h1⟩:=a77 ht11;refine gL1 [0] [] (fun (n:Nat)=>[(3,some (i64 n))]) (fun _=>[]) (fun n=>1 <= n /\ n <= s.size /\ an3 s 1 (s.size - 1) = an3 s n (s.size - n)) (fun n=>s.size - n) 1 ⟨le_refl _,h0,rfl⟩ ?_;rintro n ⟨hn1,hn,hw⟩ K1 hK1;refine gs (abx rfl rfl rfl (fun h=>aob (.opt rfl (o1 h)) (.opt rfl (o1 h)) T9 rfl (by omega) (by have:=abv h; omega) rfl)) ?_;refine gcG (fun _=>(avz (ail s n))) ?_;refine gC (fun ht21=>?_) (fun ht21=>?_)
  ·have h2:n < s.size /\ as7 (ail s n) = true:=bc8 ht21;refine ga aa0 ?_;exact gK1 hK1 (n + 1) ⟨by omega,by omega,by rw [hw,show s.size - n = (s.size - (n + 1)) + 1 by omega]; simp only [an3,h2.2,if_true]⟩
  ·have h2:n < s.size -> as7 (ail s n) = false:=a7i ht21
   have h3:agp s = n:=by
    unfold agp;rw [if_pos ⟨h0,h1⟩,hw];rcases lt_or_ge n s.size with h | h
    ·rw [show s.size - n = (s.size - (n + 1)) + 1 by omega];simp only [an3,h2 h,Bool.false_eq_true,if_false]
    ·rw [show s.size - n = 0 by omega]; rfl
   refine gE1 ?_;rw [h3]
theorem afn (s:ByteArray) (hs:s.size <= 281474976710656):FnC prog 245 [.v (.string s)] (bl (at1 s)):=by
 refine gF0 func245 ?_;refine gc (awn s hs) ?_;refine gE1 ?_;exact congrArg bl (a6x s)
end Go.Lw
namespace Go.Lw
open Go.Proofs
theorem af5 (i:Int) (n:Nat):FnC prog 302 [i64 i, i64 n] (bl (inB i n)):=by
 refine gF0 func302 ?_;refine gE1 ?_;exact congrArg bl (ban i n)
theorem aq4 (bs:List Bd) (hbs:∀ b ∈ bs, b.ok) (hl:bs.length <= 281474976710656):FnC prog 246 [.lst 2 (bs.map Bd.av)] (aik (aga bs.length (bdE bs))):=by
 refine gF0 func246 ?_;refine gl ?_;refine gL1 [0,11,12] [] (fun (i:Nat)=>[(13,some (i64 i))]) (fun _=>[]) (fun i=>i <= bs.length /\ ∀ j,j < i -> bdE bs j = 0) (fun i=>bs.length - i) 0 ⟨zero_le _,fun j h=>by omega⟩ ?_;rintro i ⟨hi,hj⟩ K1 hK1;refine gC (fun ht14=>?_) (fun ht14=>?_)
 ·have hin:=abv ht14;obtain ⟨b,hb⟩:=acj hin;have hbd:bs.getD i default = b:=aag hb;have hbo:=hbs b (mem_of_getElem? hb);have hbdup:=ama Bd.name hb;refine gi (aai hb) ?_;refine gc (afn b.name hbo.name) ?_;refine gC (fun ht21=>?_) (fun ht21=>?_)
  ·have h1:=ahu ht21;have e1:bdE bs i = 5:=by unfold bdE; rw [hbd,if_pos h1]
   refine gE1 ?_;rw [ab7 hin hj (by rw [e1]; decide),e1]; rfl
  ·have h1:=ahv ht21;refine gs (aao (.tmp rfl) (.none _) (.some _ (.tmp rfl) (by omega)) T22 rfl T77 rfl (by omega) (by simp only [length_map]; omega) rfl) ?_;refine ge rfl ?_;refine gL1 [0,3,4,11,12,13] [4] (fun (k:Nat)=>[(25,some (.lst 2 ((bs.take i).map Bd.av))),(26,some (i64 i)),(27,some (i64 k))]) (fun _=>[]) (fun k=>k <= i /\ (bs.take k).any (fun y=>eqS y.name b.name) = false) (fun k=>i - k) 0 ⟨zero_le _,rfl⟩ ?_ (h1:=(.cons rfl (Sub.of (bmz 2 Bd.av bs i)) (.cons rfl (Sub.int (by simp; omega)) (.k .nil))));rintro k ⟨hk,hd⟩ K2 hK2;refine gC (fun ht28=>?_) (fun ht28=>?_)
   ·have hkn:=abv ht28;obtain ⟨y,hy'⟩:∃ y,(bs.take i)[k]? = some y:=acj (by simp; omega);have hy:=(alv hy').1;refine gi (aai hy') ?_;refine gC (fun ht35=>?_) (fun ht35=>?_)
    ·have h2:eqS y.name b.name = true:=ht35;have e1:bdE bs i = 6:=by unfold bdE; rw [hbd,if_neg (by rw [h1]; decide),if_pos (by rw [hbdup]; exact ap8 hy hkn h2)]
     refine gE1 ?_;rw [ab7 hin hj (by rw [e1]; decide),e1]; rfl
    ·have h2:eqS y.name b.name = false:=ht35;refine ga aa0 ?_;exact gK1 hK2 (k + 1) ⟨hkn,ajo hy hd h2⟩
   ·have hkn:=aau hk ht28;subst hkn;have hnd:¬ a3g (bs.map Bd.name) k = true:=by rw [hbdup,hd]; decide
    refine gl ?_;refine gC (fun ht41=>?_) (fun ht41=>?_)
    ·have h3:8 < b.pts.length:=asy ht41;have e1:bdE bs k = 4:=by unfold bdE; rw [hbd,if_neg (by rw [h1]; decide),if_neg hnd,if_pos h3]
     refine gE1 ?_;rw [ab7 hin hj (by rw [e1]; decide),e1]; rfl
    ·have h3:b.pts.length <= 8:=av2 ht41;have e1:bdE bs k = aga b.pts.length (mkE b.pts):=by unfold bdE; rw [hbd,if_neg (by rw [h1]; decide),if_neg hnd,if_neg (by omega)]
     refine gl ?_;refine gL1 [0,4,11,12,13,44,45] [4] (fun (p:Nat)=>[(46,some (i64 p))]) (fun _=>[]) (fun p=>p <= b.pts.length /\ ∀ j,j < p -> mkE b.pts j = 0) (fun p=>b.pts.length - p) 0 ⟨zero_le _,fun j h=>by omega⟩ ?_;rintro p ⟨hp,hpj⟩ K3 hK3;refine gC (fun ht47=>?_) (fun ht47=>?_)
     ·have hpn:=abv ht47;obtain ⟨m,hm⟩:=acj hpn;have hmd:b.pts.getD p default = m:=aag hm;have hmm:=mem_of_getElem? hm;have hmdup:=ama Mk.name hm;have hmo:=hbo.pts m hmm;refine gi (aai hm) ?_;refine gc (afn m.name (hbo.names m hmm)) ?_;refine gC (fun ht54=>?_) (fun ht54=>?_)
      ·have h4:=ahu ht54;have e2:mkE b.pts p = 5:=by unfold mkE; rw [hmd,if_pos h4]
       have e3:bdE bs k = 5:=by rw [e1,ab7 hpn hpj (by rw [e2]; decide),e2]
       refine gE1 ?_;rw [ab7 hin hj (by rw [e3]; decide),e3]; rfl
      ·have h4:=ahv ht54;refine gs (aao (.tmp rfl) (.none _) (.some _ (.tmp rfl) (by omega)) T75 rfl T79 rfl (by omega) (by simp only [length_map]; omega) rfl) ?_;refine ge rfl ?_;refine gL1 [0,4,8,11,12,13,44,45,46] [4,8] (fun (q:Nat)=>[(59,some (.lst 7 ((b.pts.take p).map Mk.av))),(60,some (i64 p)),(61,some (i64 q))]) (fun _=>[]) (fun q=>q <= p /\ (b.pts.take q).any (fun y=>eqS y.name m.name) = false) (fun q=>p - q) 0 ⟨zero_le _,rfl⟩ ?_ (h1:=(.cons rfl (Sub.of (bmz 7 Mk.av b.pts p)) (.cons rfl (Sub.int (by simp; omega)) (.k .nil))));rintro q ⟨hq,hqd⟩ K4 hK4;refine gC (fun ht62=>?_) (fun ht62=>?_)
       ·have hqn:=abv ht62;obtain ⟨y,hy'⟩:∃ y,(b.pts.take p)[q]? = some y:=acj (by simp; omega);have hy:=(alv hy').1;refine gi (aai hy') ?_;refine gC (fun ht69=>?_) (fun ht69=>?_)
        ·have h5:eqS y.name m.name = true:=ht69;have e2:mkE b.pts p = 6:=by unfold mkE; rw [hmd,if_neg (by rw [h4]; decide),if_pos (by rw [hmdup]; exact ap8 hy hqn h5)]
         have e3:bdE bs k = 6:=by rw [e1,ab7 hpn hpj (by rw [e2]; decide),e2]
         refine gE1 ?_;rw [ab7 hin hj (by rw [e3]; decide),e3]; rfl
        ·have h5:eqS y.name m.name = false:=ht69;refine ga aa0 ?_;exact gK1 hK4 (q + 1) ⟨hqn,ajo hy hqd h5⟩
       ·have hqn:=aau hq ht62;subst hqn;have hmnd:¬ a3g (b.pts.map Mk.name) q = true:=by rw [hmdup,hqd]; decide
        refine gc (aco m.x hmo.x) ?_;refine gcG (fun _=>(aco m.y hmo.y)) ?_;refine gC (fun ht81=>?_) (fun ht81=>?_)
        ·have h6:=boj ht81;have e2:mkE b.pts q = 3:=by unfold mkE; rw [hmd,if_neg (by rw [h4]; decide),if_neg hmnd,if_neg (by rintro ⟨g1,g2⟩; rcases h6 with g | g; (rw [g1] at g; cases g); (rw [g2] at g; cases g))]
         have e3:bdE bs k = 3:=by rw [e1,ab7 hpn hpj (by rw [e2]; decide),e2]
         refine gE1 ?_;rw [ab7 hin hj (by rw [e3]; decide),e3]; rfl
        ·have h6:=boc ht81;have e2:mkE b.pts q = 0:=by unfold mkE; rw [hmd,if_neg (by rw [h4]; decide),if_neg hmnd,if_pos h6]
         refine ga aa0 ?_;exact gK1 hK3 (q + 1) ⟨hpn,fun j h9=>by rcases lt_or_ge j q with g | g; exact hpj j g; (have:j = q:=by omega); subst this; exact e2⟩
     ·have hpn:=aau hp ht47;subst hpn;have e2:bdE bs k = 0:=e1.trans (ajj hpj);refine ga aa0 ?_;exact gK1 hK1 (k + 1) ⟨hin,fun j h9=>by rcases lt_or_ge j k with g | g; exact hj j g; (have:j = k:=by omega); subst this; exact e2⟩
 ·have hin:=aau hi ht14;subst hin;refine gE1 ?_;rw [ajj hj]; rfl
end Go.Lw
namespace Go.Lw
open Go.Proofs
theorem atr (l:Li) (hl:l.ok) (j:Jt):FnC prog 301 [l.av, j.av] (aik (jt0 l j)):=by
 refine gF0 func301 ?_;refine gC (fun ht15=>?_) (fun ht15=>?_)
 ·have h1:=bly ht15;refine gE1 ?_;unfold jt0; rw [if_pos h1]; rfl
 ·have h1:=bjf ht15;refine gl ?_;refine gc (af5 j.a l.bodies.length) ?_;refine glG ?_;refine gcG (fun _=>(af5 j.b l.bodies.length)) ?_;refine gC (fun ht32=>?_) (fun ht32=>?_)
  ·have h2:=boj ht32;refine gE1 ?_;unfold jt0; rw [if_neg h1,if_pos h2]; rfl
  ·have h2:=boc ht32;have h2n:¬ (inB j.a l.bodies.length = false \/ inB j.b l.bodies.length = false):=by rw [h2.1,h2.2]; simp
   obtain ⟨A,hA,pA,mA,zA0⟩:=a0c h2.1;obtain ⟨B,hB,pB,mB,zB0⟩:=a0c h2.2;refine gC (fun ht38=>?_) (fun ht38=>?_)
   ·have h3:=aeq ht38;refine gE1 ?_;unfold jt0; rw [if_neg h1,if_neg h2n,if_pos h3]; rfl
   ·have h3:=afw ht38;refine gi (aai hB) ?_;refine gi (aai hA) ?_;refine gl ?_;refine gc (af5 j.point A.pts.length) ?_;refine glG ?_;refine gcG (fun _=>(af5 j.on B.pts.length)) ?_;refine gD ?_;refine gC (fun ht66=>?_) (fun ht66=>?_)
    ·have h4:=boj ht66;refine gE1 ?_;unfold jt0; rw [if_neg h1,if_neg h2n,if_neg h3,pA,pB,if_pos h4]; rfl
    ·have h4:=boc ht66;have h4n:¬ (inB j.point A.pts.length = false \/ inB j.on B.pts.length = false):=by rw [h4.1,h4.2]; simp
     refine gC (fun ht70=>?_) (fun ht70=>?_)
     ·have h5:=aeq ht70;refine gC (fun ht73=>?_) (fun ht73=>?_)
      ·have h6:=a1z ht73;refine gE1 ?_;unfold jt0; rw [if_neg h1,if_neg h2n,if_neg h3,pA,pB,if_neg h4n,if_pos h5,if_pos h6]; rfl
      ·have h6:=bem ht73;refine gE1 ?_;unfold jt0; rw [if_neg h1,if_neg h2n,if_neg h3,pA,pB,if_neg h4n,if_pos h5,if_neg (by rw [h6]; simp)]; rfl
     ·have h5:=afw ht70;refine gl ?_;refine gc (af5 j.to B.pts.length) ?_;refine gC (fun ht80=>?_) (fun ht80=>?_)
      ·have h6:=ahu ht80;refine gE1 ?_;unfold jt0; rw [if_neg h1,if_neg h2n,if_neg h3,pA,pB,if_neg h4n,if_neg h5,if_pos h6]; rfl
      ·have h6:=ahv ht80;obtain ⟨m1,g1,d1,mm1,z1⟩:=a5q h4.2;obtain ⟨m2,g2,d2,mm2,z2⟩:=a5q h6;have mo1:=(hl.bodies B mB).pts m1 mm1;have mo2:=(hl.bodies B mB).pts m2 mm2;refine gi (aai g1) ?_;refine gi (aai g2) ?_;refine gD ?_;refine gc (akm m1.x m2.x mo1.x mo2.x) ?_;refine gcG (fun _=>(akm m1.y m2.y mo1.y mo2.y)) ?_;refine gC (fun ht105=>?_) (fun ht105=>?_)
       ·have h7:=bkx ht105;refine gE1 ?_;unfold jt0; rw [if_neg h1,if_neg h2n,if_neg h3,pA,pB,if_neg h4n,if_neg h5,if_neg (by rw [h6]; decide),d1,d2,if_pos h7]; rfl
       ·have h7:=bmt ht105;refine gE1 ?_;unfold jt0; rw [if_neg h1,if_neg h2n,if_neg h3,pA,pB,if_neg h4n,if_neg h5,if_neg (by rw [h6]; decide),d1,d2,if_neg h7]; rfl
theorem aq7 (l:Li) (hl:l.ok):FnC prog 247 [l.av] (aik (axa l)):=by
 have hlj:=hl.lj;refine gF0 func247 ?_;refine gl ?_;refine gC (fun ht11=>?_) (fun ht11=>?_)
 ·have h0:16 < l.joints.length:=asy ht11;refine gE1 ?_;unfold axa; rw [if_pos h0]; rfl
 ·have h0:l.joints.length <= 16:=av2 ht11;have e0:axa l = aga l.joints.length (jtE l):=by unfold axa; rw [if_neg (by omega)]
  refine gl ?_;refine gL1 [1,14,15] [1] (fun (i:Nat)=>[(16,some (i64 i))]) (fun _=>[]) (fun i=>i <= l.joints.length /\ ∀ j,j < i -> jtE l j = 0) (fun i=>l.joints.length - i) 0 ⟨zero_le _,fun j h=>by omega⟩ ?_;rintro i ⟨hi,hj⟩ K1 hK1;refine gC (fun ht17=>?_) (fun ht17=>?_)
  ·have hin:=abv ht17;obtain ⟨b,hb⟩:=acj hin;have hbd:l.joints.getD i default = b:=aag hb;have hbdup:=ama Jt.name hb;refine gi (aai hb) ?_;refine gc (afn b.name (hl.jnames b (mem_of_getElem? hb))) ?_;refine gC (fun ht24=>?_) (fun ht24=>?_)
   ·have h1:=ahu ht24;have e1:jtE l i = 5:=by unfold jtE; rw [hbd,if_pos h1]
    refine gE1 ?_;rw [e0,ab7 hin hj (by rw [e1]; decide),e1]; rfl
   ·have h1:=ahv ht24;refine gs (aao (.tmp rfl) (.none _) (.some _ (.tmp rfl) (by omega)) T23 rfl T126 rfl (by omega) (by simp only [length_map]; omega) rfl) ?_;refine ge rfl ?_;refine gL1 [1,3,4,14,15,16] [1,4] (fun (k:Nat)=>[(29,some (.lst 7 ((l.joints.take i).map Jt.av))),(30,some (i64 i)),(31,some (i64 k))]) (fun _=>[]) (fun k=>k <= i /\ (l.joints.take k).any (fun y=>eqS y.name b.name) = false) (fun k=>i - k) 0 ⟨zero_le _,rfl⟩ ?_ (h1:=(.cons rfl (Sub.of (bmz 7 Jt.av l.joints i)) (.cons rfl (Sub.int (by simp; omega)) (.k .nil))));rintro k ⟨hk,hd⟩ K2 hK2;refine gC (fun ht32=>?_) (fun ht32=>?_)
    ·have hkn:=abv ht32;obtain ⟨y,hy'⟩:∃ y,(l.joints.take i)[k]? = some y:=acj (by simp; omega);have hy:=(alv hy').1;refine gi (aai hy') ?_;refine gC (fun ht39=>?_) (fun ht39=>?_)
     ·have h2:eqS y.name b.name = true:=ht39;have e1:jtE l i = 6:=by unfold jtE; rw [hbd,if_neg (by rw [h1]; decide),if_pos (by rw [hbdup]; exact ap8 hy hkn h2)]
      refine gE1 ?_;rw [e0,ab7 hin hj (by rw [e1]; decide),e1]; rfl
     ·have h2:eqS y.name b.name = false:=ht39;refine ga aa0 ?_;exact gK1 hK2 (k + 1) ⟨hkn,ajo hy hd h2⟩
    ·have hkn:=aau hk ht32;subst hkn;have hnd:¬ a3g (l.joints.map Jt.name) k = true:=by rw [hbdup,hd]; decide
     have e1:jtE l k = jt0 l b:=by unfold jtE; rw [hbd,if_neg (by rw [h1]; decide),if_neg hnd]
     refine gc (atr l hl b) ?_;refine gC (fun ht46=>?_) (fun ht46=>?_)
     ·have h3:=aea ht46;refine gE1 ?_;rw [e0,ab7 hin hj (by rw [e1]; exact h3),e1]
     ·have h3:=adu ht46;refine ga aa0 ?_;exact gK1 hK1 (k + 1) ⟨hin,fun j h9=>by rcases lt_or_ge j k with g | g; exact hj j g; (have:j = k:=by omega); subst this; exact e1.trans h3⟩
  ·have hin:=aau hi ht17;subst hin;refine gE1 ?_;rw [e0,ajj hj]; rfl
theorem aqg (l:Li) (hl:l.ok):FnC prog 248 [l.av] (aik (a90 l)):=by
 have hld:=hl.ld;refine gF0 func248 ?_;refine gl ?_;refine gC (fun ht12=>?_) (fun ht12=>?_)
 ·have h0:2 < l.drivers.length:=asy ht12;refine gE1 ?_;unfold a90; rw [if_pos h0]; rfl
 ·have h0:l.drivers.length <= 2:=av2 ht12;have e0:a90 l = aga l.drivers.length (drE l):=by unfold a90; rw [if_neg (by omega)]
  refine gl ?_;refine gL1 [1,15,16] [1] (fun (i:Nat)=>[(17,some (i64 i))]) (fun _=>[]) (fun i=>i <= l.drivers.length /\ ∀ j,j < i -> drE l j = 0) (fun i=>l.drivers.length - i) 0 ⟨zero_le _,fun j h=>by omega⟩ ?_;rintro i ⟨hi,hj⟩ K1 hK1;refine gC (fun ht18=>?_) (fun ht18=>?_)
  ·have hin:=abv ht18;obtain ⟨b,hb⟩:=acj hin;have hbd:l.drivers.getD i default = b:=aag hb;have hbdup:=ama Dr.name hb;refine gi (aai hb) ?_;refine gc (afn b.name (hl.dnames b (mem_of_getElem? hb))) ?_;refine gC (fun ht25=>?_) (fun ht25=>?_)
   ·have h1:=ahu ht25;have e1:drE l i = 5:=by unfold drE; rw [hbd,if_pos h1]
    refine gE1 ?_;rw [e0,ab7 hin hj (by rw [e1]; decide),e1]; rfl
   ·have h1:=ahv ht25;refine gs (aao (.tmp rfl) (.none _) (.some _ (.tmp rfl) (by omega)) T24 rfl T128 rfl (by omega) (by simp only [length_map]; omega) rfl) ?_;refine ge rfl ?_;refine gL1 [1,3,4,15,16,17] [1,4] (fun (k:Nat)=>[(30,some (.lst 2 ((l.drivers.take i).map Dr.av))),(31,some (i64 i)),(32,some (i64 k))]) (fun _=>[]) (fun k=>k <= i /\ (l.drivers.take k).any (fun y=>eqS y.name b.name) = false) (fun k=>i - k) 0 ⟨zero_le _,rfl⟩ ?_ (h1:=(.cons rfl (Sub.of (bmz 2 Dr.av l.drivers i)) (.cons rfl (Sub.int (by simp; omega)) (.k .nil))));rintro k ⟨hk,hd⟩ K2 hK2;refine gC (fun ht33=>?_) (fun ht33=>?_)
    ·have hkn:=abv ht33;obtain ⟨y,hy'⟩:∃ y,(l.drivers.take i)[k]? = some y:=acj (by simp; omega);have hy:=(alv hy').1;refine gi (aai hy') ?_;refine gC (fun ht40=>?_) (fun ht40=>?_)
     ·have h2:eqS y.name b.name = true:=ht40;have e1:drE l i = 6:=by unfold drE; rw [hbd,if_neg (by rw [h1]; decide),if_pos (by rw [hbdup]; exact ap8 hy hkn h2)]
      refine gE1 ?_;rw [e0,ab7 hin hj (by rw [e1]; decide),e1]; rfl
     ·have h2:eqS y.name b.name = false:=ht40;refine ga aa0 ?_;exact gK1 hK2 (k + 1) ⟨hkn,ajo hy hd h2⟩
    ·have hkn:=aau hk ht33;subst hkn;have hnd:¬ a3g (l.drivers.map Dr.name) k = true:=by rw [hbdup,hd]; decide
     refine gl ?_;refine gc (af5 b.body l.bodies.length) ?_;refine gC (fun ht49=>?_) (fun ht49=>?_)
     ·have h3:=ahu ht49;have e1:drE l k = 9:=by unfold drE; rw [hbd,if_neg (by rw [h1]; decide),if_neg hnd,if_pos h3]
      refine gE1 ?_;rw [e0,ab7 hin hj (by rw [e1]; decide),e1]; rfl
     ·have h3:=ahv ht49;refine gC (fun ht53=>?_) (fun ht53=>?_)
      ·have h4:=aeq ht53;have e1:drE l k = 7:=by unfold drE; rw [hbd,if_neg (by rw [h1]; decide),if_neg hnd,if_neg (by rw [h3]; decide),if_pos h4]
       refine gE1 ?_;rw [e0,ab7 hin hj (by rw [e1]; decide),e1]; rfl
      ·have h4:=afw ht53;have e1:drE l k = if (l.drivers.take k).any (fun d=>decide (d.body = b.body)) = true then 6 else 0:=by unfold drE; rw [hbd,if_neg (by rw [h1]; decide),if_neg hnd,if_neg (by rw [h3]; decide),if_neg h4]
       refine gs (aao (.tmp rfl) (.none _) (.some _ (.tmp rfl) (by omega)) T24 rfl T128 rfl (by omega) (by simp only [length_map]; omega) rfl) ?_;refine ge rfl ?_;refine gL1 [1,4,15,16,17] [1,4] (fun (q:Nat)=>[(58,some (.lst 2 ((l.drivers.take k).map Dr.av))),(59,some (i64 k)),(60,some (i64 q))]) (fun _=>[]) (fun q=>q <= k /\ (l.drivers.take q).any (fun d=>decide (d.body = b.body)) = false) (fun q=>k - q) 0 ⟨zero_le _,rfl⟩ ?_ (h1:=(.cons rfl (Sub.of (bmz 2 Dr.av l.drivers k)) (.cons rfl (Sub.int (by simp; omega)) (.k .nil))));rintro q ⟨hq,hqd⟩ K3 hK3;refine gC (fun ht61=>?_) (fun ht61=>?_)
       ·have hqn:=abv ht61;obtain ⟨y,hy'⟩:∃ y,(l.drivers.take k)[q]? = some y:=acj (by simp; omega);have hy:=(alv hy').1;refine gi (aai hy') ?_;refine gC (fun ht68=>?_) (fun ht68=>?_)
        ·have h5:decide (y.body = b.body) = true:=decide_eq_true (aeq ht68);have e2:drE l k = 6:=by rw [e1,if_pos (ap8 hy hqn h5)]
         refine gE1 ?_;rw [e0,ab7 hin hj (by rw [e2]; decide),e2]; rfl
        ·have h5:decide (y.body = b.body) = false:=decide_eq_false (afw ht68);refine ga aa0 ?_;exact gK1 hK3 (q + 1) ⟨hqn,ajo hy hqd h5⟩
       ·have hqn:=aau hq ht61;subst hqn;have e2:drE l q = 0:=by rw [e1,hqd]; rfl
        refine ga aa0 ?_;exact gK1 hK1 (q + 1) ⟨hin,fun j h9=>by rcases lt_or_ge j q with g | g; exact hj j g; (have:j = q:=by omega); subst this; exact e2⟩
  ·have hin:=aau hi ht18;subst hin;refine gE1 ?_;rw [e0,ajj hj]; rfl
theorem amg (l:Li) (hl:l.ok):FnC prog 159 [l.av] (aik (liE l)):=by
 have hlb:=hl.lb;refine gF0 func159 ?_;refine gc (afn l.name hl.name) ?_;refine gC (fun ht8=>?_) (fun ht8=>?_)
 ·have h1:=ahu ht8;refine gE1 ?_;unfold liE; rw [if_pos h1]; rfl
 ·have h1:=ahv ht8;refine gl ?_;refine gC (fun ht13=>?_) (fun ht13=>?_)
  ·have h2:=bjz ht13;refine gE1 ?_;unfold liE; rw [if_neg (by rw [h1]; decide),if_pos h2]; rfl
  ·have h2:=bjt ht13;refine gl ?_;refine gC (fun ht18=>?_) (fun ht18=>?_)
   ·have h3:8 < l.bodies.length:=asy ht18;refine gE1 ?_;unfold liE; rw [if_neg (by rw [h1]; decide),if_neg h2,if_pos h3]; rfl
   ·have h3:l.bodies.length <= 8:=av2 ht18;have e0:liE l = if bbr l ≠ 0 then bbr l else if axa l ≠ 0 then axa l else a90 l:=by unfold liE; rw [if_neg (by rw [h1]; decide),if_neg h2,if_neg (by omega)]
    refine gc (aq4 l.bodies hl.bodies hlb) ?_;refine gC (fun ht24=>?_) (fun ht24=>?_)
    ·have h4:bbr l ≠ 0:=aea ht24;refine gE1 ?_;rw [e0,if_pos h4]; rfl
    ·have h4:bbr l = 0:=adu ht24;refine gc (aq7 l hl) ?_;refine gC (fun ht29=>?_) (fun ht29=>?_)
     ·have h5:=aea ht29;refine gE1 ?_;rw [e0,if_neg (by rw [h4]; simp),if_pos h5]
     ·have h5:=adu ht29;refine gc (aqg l hl) ?_;refine gE1 ?_;rw [e0,if_neg (by rw [h4]; simp),if_neg (by rw [h5]; simp)]
end Go.Lw
namespace Go.Lw
open Go.Proofs
theorem aky (d:Nat) (hd:Nat.blt d 1000 = true) (l:Li) (hl:l.bodies.length <= 1000) (b:Nat) (hb:b < l.bodies.length) :
  Con prog 124 [l.av,i64 b] [] (.ms d 1 0 l.bodies.length) [(d,some (.row 1 ((aeg l.bodies.length b).map bl)))]:=by
 refine gF func124 (fun k z h=>by cases h) ?_;refine gl ?_;refine gs (afq (.tmp rfl) T185 rfl T4 rfl rfl (by omega) (by dsimp only; omega) rfl) ?_;refine gs (aic (.tmp rfl) (.tmp rfl) T185 rfl T4 rfl (by omega) (by omega) rfl) ?_;refine gs (aa2 (.tmp rfl) rfl (by rw [List.getElem?_replicate,if_pos (by simp; omega)]) rfl (.const _) rfl rfl T4 rfl rfl) ?_ (3,0);refine gW (Wk.of (sl:=[(5,some (.ms 9 1 0 l.bodies.length))]) (hp:=[(9,some (.row 1 ((aeg l.bodies.length b).map bl)))]) (.cons rfl (Sub.of (by rw [toNat_natCast])) .nil) (.cons rfl (BlkSub.of (by unfold aeg; simp only [map_set,map_replicate,Nat.zero_add,toNat_natCast]; rfl)) .nil)) ?_ (3,0);refine gW (Wk.rekey (k:=9) (d:=900) rfl rfl) ?_;refine gR ?_;exact Fin.own1 rfl hd rfl
theorem a2m (l:Li) (hl:l.bodies.length <= 1000) (b:Nat) (hb:b < l.bodies.length):FnC prog 124 [l.av, i64 b] (.lst 1 ((aeg l.bodies.length b).map bl)):=by
 have h:=Con.freeze (by rw [length_map,ad5]; omega) (aky 0 rfl l hl b hb);rw [drop_zero,take_of_length_le (by rw [length_map,ad5]; exact le_refl _)] at h;exact h
theorem av5 (l:Li) (hl:l.ok) (b:Int):FnC prog 284 [l.av, i64 b] (bl (ana l b)):=by
 have hld:=hl.ld;refine gF0 func284 ?_;refine gl ?_;refine gL1 [1,8,9] [] (fun (i:Nat)=>[(10,some (i64 i))]) (fun _=>[]) (fun i=>i <= l.drivers.length /\ (l.drivers.take i).any (fun d=>decide (d.body = b)) = false) (fun i=>l.drivers.length - i) 0 ⟨zero_le _,rfl⟩ ?_;rintro i ⟨hi,hj⟩ K1 hK1;refine gC (fun ht11=>?_) (fun ht11=>?_)
 ·have hin:=abv ht11;obtain ⟨d,hd⟩:=acj hin;refine gi (aai hd) ?_;refine gC (fun ht17=>?_) (fun ht17=>?_)
  ·have h1:d.body = b:=aeq ht17;refine gE1 ?_;unfold ana; rw [List.any_eq_true.2 ⟨d,mem_of_getElem? hd,decide_eq_true h1⟩]; rfl
  ·have h1:d.body ≠ b:=afw ht17;refine ga aa0 ?_;exact gK1 hK1 (i + 1) ⟨hin,ajo hd hj (decide_eq_false h1)⟩
 ·have hin:=aau hi ht11;subst hin;rw [take_length] at hj;refine gE1 ?_;unfold ana; rw [hj]; rfl
theorem apj (l:Li) (hl:l.ok) (hli:liE l = 0) (kind body:Int) (oth:List Bool) (ho:oth.length = l.bodies.length):FnC prog 220 [l.av, i64 kind, i64 body, .lst 1 (oth.map bl)] (i64 (abo l kind body oth)):=by
 have hlj:=hl.lj;refine gF0 func220 ?_;refine gl ?_;refine gL1 [1,2,3,12,13] [] (fun (i:Nat)=>[(14,some (i64 i))]) (fun _=>[]) (fun i=>i <= l.joints.length /\ ∀ j,j < i -> (!a91 kind body oth (l.joints.getD j default)) = true) (fun i=>l.joints.length - i) 0 ⟨zero_le _,fun j h=>by omega⟩ ?_;rintro i ⟨hi,hj⟩ K1 hK1;refine gC (fun ht15=>?_) (fun ht15=>?_)
 ·have hin:=abv ht15;obtain ⟨j,hjt⟩:=acj hin;have hjd:l.joints.getD i default = j:=aag hjt;obtain ⟨i1,i2,_⟩:=ahj hli hjt;have b1:=afy i1;have b2:=afy i2;obtain ⟨va,hva⟩:∃ v,oth[j.a.toNat]? = some v:=acj (by omega);obtain ⟨vb,hvb⟩:∃ v,oth[j.b.toNat]? = some v:=acj (by omega);have ea:kn oth j.a = va:=aag hva;have eb:kn oth j.b = vb:=aag hvb;refine gi (aai hjt) ?_;refine giG (fun _=>(al6 (n:=j.b.toNat) (by omega) hvb)) ?_;refine giG (fun _=>(al6 (n:=j.a.toNat) (by omega) hva)) ?_;refine gC (fun ht48=>?_) (fun ht48=>?_)
  ·have h2 : a91 kind body oth j = true := by rw [<- avk (va := va) (vb := vb) ea eb]; exact ht48
   refine gE1 ?_;unfold abo; rw [acv hin hj (by rw [hjd,h2]; rfl)]; rfl
  ·have h2 : a91 kind body oth j = false := by rw [<- avk (va := va) (vb := vb) ea eb]; exact ht48
   refine ga aa0 ?_;exact gK1 hK1 (i + 1) ⟨hin,fun k h9=>by rcases lt_or_ge k i with g | g; exact hj k g; (have:k = i:=by omega); subst this; rw [hjd,h2]; rfl⟩
 ·have hin:=aau hi ht15;subst hin;refine gE1 ?_;unfold abo; rw [acf hj]; rfl
theorem a2y (l:Li) (hl:l.ok) (known:List Bool) (b:Nat) (hb:b < known.length):FnC prog 221 [l.av, .lst 1 (known.map bl), i64 b] (bl (agw l known b)):=by
 obtain ⟨v,hv⟩:=acj hb;have ev:kn known (b:Int) = v:=aag (by rw [toNat_natCast]; exact hv);refine gF0 func221 ?_;refine gi (aai hv) ?_;refine gcG (fun _=>(av5 l hl b)) ?_;refine gE1 ?_;unfold agw; rw [ev]; exact congrArg bl (aee _ _)
end Go.Lw
namespace Go.Lw
open Go.Proofs
theorem bk2 {l:Li} {known:List Bool} (hl:l.ok) (hli:liE l = 0) (kind body:Int) (hk:known.length = l.bodies.length) :
  Con prog 220 [l.av,i64 kind,i64 body,.ms 1000 1 0 known.length] [(1000,some (.row 1 (known.map bl)))] (i64 (abo l kind body known)) [(1000,some (.row 1 (known.map bl)))]:=by
 refine Con.borrow (args:=[l.av,i64 kind,i64 body,.lst 1 (known.map bl)]) 1000 1 (known.map bl) rfl rfl rfl ?_ rfl (fun k' x h=>by cases h) (apj l hl hli kind body known hk);intro j x' hj
 match j,hj with
 | 0,hj=>cases hj; exact .inl rfl
 | 1,hj=>cases hj; exact .inl rfl
 | 2,hj=>cases hj; exact .inl rfl
 | 3,hj=>cases hj; exact .inr ⟨0,known.length,rfl,by simp,by rw [drop_zero,take_of_length_le (by simp)]; rfl⟩
theorem bqi {l:Li} {known:List Bool} (hl:l.ok) (b:Nat) (hb:b < known.length) :
  Con prog 221 [l.av,.ms 1000 1 0 known.length,i64 b] [(1000,some (.row 1 (known.map bl)))] (bl (agw l known b)) [(1000,some (.row 1 (known.map bl)))]:=by
 refine Con.borrow (args:=[l.av,.lst 1 (known.map bl),i64 b]) 1000 1 (known.map bl) rfl rfl rfl ?_ rfl (fun k' x h=>by cases h) (a2y l hl known b hb);intro j x' hj
 match j,hj with
 | 0,hj=>cases hj; exact .inl rfl
 | 1,hj=>cases hj; exact .inr ⟨0,known.length,rfl,by simp,by rw [drop_zero,take_of_length_le (by simp)]; rfl⟩
 | 2,hj=>cases hj; exact .inl rfl
theorem ave (l:Li) (hl:l.ok) (hli:liE l = 0) (known:List Bool) (hk:known.length = l.bodies.length):Con prog 125 [l.av, .ms 1000 1 0 known.length] [(1000, some (.row 1 (known.map bl)))] (.tup [((ab6 l known).getD default).av, bl (ab6 l known).isSome]) [(1000, some (.row 1 (known.map bl)))]:=by
 have hld:=hl.ld;refine gF func125 (fun k z h=>aaz h) ?_;refine gl ?_;refine gL1 [2,4,10,11] [2,4,1000] (fun (i:Nat)=>[(1,some (.ms 1000 1 0 known.length)),(12,some (i64 i))]) (fun _=>[]) (fun i=>i <= l.drivers.length /\ ∀ j,j < i -> (!aiq l known j) = true) (fun i=>l.drivers.length - i) 0 ⟨zero_le _,fun j h=>by omega⟩ ?_;rintro i ⟨hi,hj⟩ K1 hK1;refine gC (fun ht13=>?_) (fun ht13=>?_)
 ·have hin:=abv ht13;obtain ⟨d,hd⟩:=acj hin;have hdd:l.drivers.getD i default = d:=aag hd;have hb:=afy (a3b hli hd);obtain ⟨v,hv⟩:∃ v,known[d.body.toNat]? = some v:=acj (by omega);have ev:kn known d.body = v:=aag hv;refine gi (aai hd) ?_;refine gs (aic (.tmp rfl) (.tmp rfl) T185 rfl T4 rfl (by omega) (by omega) rfl) ?_;refine gs (aae (.tmp rfl) rfl (by rw [Nat.zero_add,getElem?_map,hv]; rfl) T4 rfl rfl rfl) ?_;refine gC (fun ht21=>?_) (fun ht21=>?_)
  ·have h2 : aiq l known i = false := by unfold aiq; rw [hdd, ev, ht21]; rfl
   refine ga aa0 ?_;exact gK1 hK1 (i + 1) ⟨hin,fun k h9=>by rcases lt_or_ge k i with g | g; exact hj k g; (have:k = i:=by omega); subst this; rw [h2]; rfl⟩
  ·have hv0:v = false:=ht21;refine gt (ai4 (bk2 hl hli 0 d.body hk) (.cons (.tmp rfl) (.cons (.const _) (.cons (.tmp rfl) (.cons (.tmp rfl) .nil)))) rfl rfl rfl) ?_;refine gC (fun ht28=>?_) (fun ht28=>?_)
   ·have h2 : aiq l known i = true := by unfold aiq; rw [hdd, ev, hv0, decide_eq_true (bk5 ht28)]; rfl
    have hg:ab6 l known = some ⟨0,[d.body],[abo l 0 d.body known],i⟩:=by unfold ab6; rw [acv hin hj (by rw [h2]; rfl),<- hdd]; rfl
    refine gR ?_;rw [hg];exact Fin.keep (abm rfl)
   ·have h2 : aiq l known i = false := by unfold aiq; rw [hdd, decide_eq_false (blj ht28), Bool.and_false]
    refine ga aa0 ?_;exact gK1 hK1 (i + 1) ⟨hin,fun k h9=>by rcases lt_or_ge k i with g | g; exact hj k g; (have:k = i:=by omega); subst this; rw [h2]; rfl⟩
 ·have hin:=aau hi ht13;subst hin;have hg:ab6 l known = none:=by unfold ab6; rw [acf hj]; rfl
  refine gR ?_;exact Fin.sub (Fin.keep (abm rfl)) (by rw [hg]; exact Sub.tup (.cons ams (.cons (.refl _) .nil)))
theorem a3h (l:Li) (hl:l.ok) (hli:liE l = 0) (known:List Bool) (hk:known.length = l.bodies.length):Con prog 126 [l.av, .ms 1000 1 0 known.length] [(1000, some (.row 1 (known.map bl)))] (.tup [((aet l known).getD default).av, bl (aet l known).isSome]) [(1000, some (.row 1 (known.map bl)))]:=by
 have h8:=(ab3 hli).2.2.2.1;refine gF func126 (fun k z h=>aaz h) ?_;refine gl ?_;refine gL1 [2,4,12,13] [2,4,1000] (fun (i:Nat)=>[(1,some (.ms 1000 1 0 known.length)),(14,some (i64 i))]) (fun _=>[]) (fun i=>i <= l.bodies.length /\ ∀ j,j < i -> (ayq l known j).isNone = true) (fun i=>l.bodies.length - i) 0 ⟨zero_le _,fun j h=>by omega⟩ ?_;rintro i ⟨hi,hj⟩ K1 hK1;refine gC (fun ht15=>?_) (fun ht15=>?_)
 ·have hin:=abv ht15;refine ga aa0 ?_;refine gL1 [2,4,6,12,13,14] [2,4,1000] (fun (k:Nat)=>[(1,some (.ms 1000 1 0 known.length)),(7,some (i64 (i + 1 + k:Nat)))]) (fun _=>[]) (fun k=>i + 1 + k <= l.bodies.length /\ ∀ j,j < k -> (!ae9 l known i (i + 1 + j)) = true) (fun k=>l.bodies.length - k) 0 ⟨by omega,fun j h=>by omega⟩ ?_;rintro k ⟨hkl,hkj⟩ K2 hK2;refine gl ?_;refine gC (fun ht23=>?_) (fun ht23=>?_)
  ·have hkn:i + 1 + k < l.bodies.length:=abv ht23;refine gt (ai4 (bqi hl i (by omega)) (.cons (.tmp rfl) (.cons (.tmp rfl) (.cons (.tmp rfl) .nil))) rfl rfl rfl) ?_;refine gu (abx rfl rfl rfl (fun h=>ai4 (bqi hl (i + 1 + k) (by omega)) (.cons (.opt rfl (o1 h)) (.cons (.opt rfl (o1 h)) (.cons (.opt rfl (o1 h)) .nil))) rfl rfl rfl)) ?_;refine gC (fun ht37=>?_) (fun ht37=>?_)
   ·have h2 : ae9 l known i (i + 1 + k) = false := by unfold ae9; rw [show (agw l known i && agw l known ((i + 1 + k : Nat) : Int)) = false from by rcases boj ht37 with g | g; (rw [g]; rfl); (rw [g, Bool.and_false])]; rfl
    refine ga aa0 ?_;exact gK1 hK2 (k + 1) ⟨by omega,fun j h9=>by rcases lt_or_ge j k with g | g; exact hkj j g; (have:j = k:=by omega); subst this; rw [h2]; rfl⟩
   ·have hff:=boc ht37;refine gt (ai4 (bk2 hl hli 0 i hk) (.cons (.tmp rfl) (.cons (.const _) (.cons (.tmp rfl) (.cons (.tmp rfl) .nil)))) rfl rfl rfl) ?_;refine gt (ai4 (bk2 hl hli 0 (i + 1 + k:Nat) hk) (.cons (.tmp rfl) (.cons (.const _) (.cons (.tmp rfl) (.cons (.tmp rfl) .nil)))) rfl rfl rfl) ?_;refine gc (a2m l (by omega) (i + 1 + k) hkn) ?_;refine gc (apj l hl hli 0 i (aeg l.bodies.length ((i + 1 + k:Nat):Int)) (ad5 _ _)) ?_;refine gD ?_;refine gC (fun ht61=>?_) (fun ht61=>?_)
    ·have h2 : ae9 l known i (i + 1 + k) = true := by unfold ae9; rw [hff.1, hff.2]; exact (asr.symm.trans ht61)
     have hat:ayq l known i = some (i + 1 + k):=by unfold ayq; rw [acv (by omega) hkj (by rw [h2]; rfl),Option.map_some]; congr 1; omega
     have hg:aet l known = some (prG l known i (i + 1 + k)):=by unfold aet; rw [acv hin hj (by rw [hat]; rfl),Option.map_some,hat]
     refine gR ?_;rw [hg];exact Fin.keep (abm rfl)
    ·have h2 : ae9 l known i (i + 1 + k) = false := by unfold ae9; rw [show (decide (0 <= abo l 0 i known) && decide (0 <= abo l 0 ((i + 1 + k : Nat) : Int) known) && decide (0 <= abo l 0 i (aeg l.bodies.length ((i + 1 + k : Nat) : Int)))) = false from asr.symm.trans ht61, Bool.and_false]
     refine ga aa0 ?_;exact gK1 hK2 (k + 1) ⟨by omega,fun j h9=>by rcases lt_or_ge j k with g | g; exact hkj j g; (have:j = k:=by omega); subst this; rw [h2]; rfl⟩
  ·have hkn : ¬ i + 1 + k < l.bodies.length := fun h => by have h1 := a5w ht23; omega
   have hat:ayq l known i = none:=by unfold ayq; rw [show l.bodies.length - (i + 1) = k by omega,acf hkj]; rfl
   refine ga aa0 ?_;exact gK1 hK1 (i + 1) ⟨hin,fun j h9=>by rcases lt_or_ge j i with g | g; exact hj j g; (have:j = i:=by omega); subst this; rw [hat]; rfl⟩
 ·have hin:=aau hi ht15;have hg:aet l known = none:=by unfold aet; rw [<- hin,acf hj]; rfl
  refine gR ?_;exact Fin.sub (Fin.keep (abm rfl)) (by rw [hg]; exact Sub.tup (.cons ams (.cons (.refl _) .nil)))
theorem au8 (l:Li) (hl:l.ok) (hli:liE l = 0) (known:List Bool) (hk:known.length = l.bodies.length):Con prog 127 [l.av, .ms 1000 1 0 known.length] [(1000, some (.row 1 (known.map bl)))] (.tup [((acy l known).getD default).av, bl (acy l known).isSome]) [(1000, some (.row 1 (known.map bl)))]:=by
 have h8:=(ab3 hli).2.2.2.1;refine gF func127 (fun k z h=>aaz h) ?_;refine gl ?_;refine gL1 [2,4,11,12] [2,4,1000] (fun (i:Nat)=>[(1,some (.ms 1000 1 0 known.length)),(13,some (i64 i))]) (fun _=>[]) (fun i=>i <= l.bodies.length /\ ∀ j,j < i -> (!aio l known j) = true) (fun i=>l.bodies.length - i) 0 ⟨zero_le _,fun j h=>by omega⟩ ?_;rintro i ⟨hi,hj⟩ K1 hK1;refine gC (fun ht14=>?_) (fun ht14=>?_)
 ·have hin:=abv ht14;refine gt (ai4 (bqi hl i (by omega)) (.cons (.tmp rfl) (.cons (.tmp rfl) (.cons (.tmp rfl) .nil))) rfl rfl rfl) ?_;refine gC (fun ht20=>?_) (fun ht20=>?_)
  ·have h2 : aio l known i = false := by unfold aio; rw [ahu ht20]; rfl
   refine ga aa0 ?_;exact gK1 hK1 (i + 1) ⟨hin,fun k h9=>by rcases lt_or_ge k i with g | g; exact hj k g; (have:k = i:=by omega); subst this; rw [h2]; rfl⟩
  ·have hf:=ahv ht20;refine gt (ai4 (bk2 hl hli 0 i hk) (.cons (.tmp rfl) (.cons (.const _) (.cons (.tmp rfl) (.cons (.tmp rfl) .nil)))) rfl rfl rfl) ?_;refine gt (ai4 (bk2 hl hli 1 i hk) (.cons (.tmp rfl) (.cons (.const _) (.cons (.tmp rfl) (.cons (.tmp rfl) .nil)))) rfl rfl rfl) ?_;refine gD ?_;refine gC (fun ht34=>?_) (fun ht34=>?_)
   ·have h2 : aio l known i = false := by unfold aio; rw [bl4 ht34, Bool.and_false]
    refine ga aa0 ?_;exact gK1 hK1 (i + 1) ⟨hin,fun k h9=>by rcases lt_or_ge k i with g | g; exact hj k g; (have:k = i:=by omega); subst this; rw [h2]; rfl⟩
   ·obtain ⟨p0, s0⟩:=bll ht34;have s1:=(afp (l:=l) (kind:=1) (body:=i) (oth:=known)).2;have h2:aio l known i = true:=by unfold aio; rw [hf,decide_eq_true p0,decide_eq_true s0]; rfl
    obtain ⟨j,hjt⟩:∃ j,l.joints[(abo l 1 i known).toNat]? = some j:=acj (by omega);have hjd:l.joints.getD (abo l 1 i known).toNat default = j:=aag hjt;have hg:acy l known = some (sgG l known i):=by unfold acy; rw [acv hin hj (by rw [h2]; rfl),Option.map_some]
    refine gi (al6 (n:=(abo l 1 i known).toNat) (by omega) hjt) ?_;refine gC (fun ht42=>?_) (fun ht42=>?_)
    ·have hji:j.a = i:=aeq ht42;refine gR ?_;rw [hg]; unfold sgG; rw [hjd]; simp only [Option.getD_some,if_pos hji]
     exact Fin.keep (abm rfl)
    ·have hji:j.a ≠ i:=afw ht42;refine gR ?_;rw [hg]; unfold sgG; rw [hjd]; simp only [Option.getD_some,if_neg hji]
     exact Fin.keep (abm rfl)
 ·have hin:=aau hi ht14;have hg:acy l known = none:=by unfold acy; rw [<- hin,acf hj]; rfl
  refine gR ?_;exact Fin.sub (Fin.keep (abm rfl)) (by rw [hg]; exact Sub.tup (.cons ams (.cons (.refl _) .nil)))
end Go.Lw
namespace Go.Lw
open Go.Proofs
theorem aox {k:List Bool} {bs:List Int} {q:Nat} {x:Int} (h:bs[q]? = some x):aat k (bs.drop q) = aat (k.set x.toNat true) (bs.drop (q + 1)):=by
 have hi:=(List.getElem?_eq_some_iff.1 h).1;rw [List.drop_eq_getElem_cons hi,(List.getElem?_eq_some_iff.1 h).2]; rfl
theorem a4v {l:Li} {n:Nat} {known:List Bool} {out:List Gr} {g:Gr} (h:adq l known = some g):aa6 l (n + 1) known out = aa6 l n (aat known g.bodies) (out ++ [g]):=by
 show (match adq l known with | none=>_ | some g=>_) = _;rw [h]
theorem a45 {l:Li} {n:Nat} {known:List Bool} {out:List Gr} (h:adq l known = none):aa6 l n known out = (known, out):=by
 cases n with
 | zero=>rfl
 | succ n=>show (match adq l known with | none=>_ | some g=>_) = _; rw [h]
theorem api {α:Type} {o:Option α} (h:o.isSome = false):o = none:=by cases o <;> simp_all
theorem a6r {α:Type} {a b:Option α} (h:a.isSome = true):a = a.or b:=by cases a <;> simp_all
theorem av7 {l:Li} {known:List Bool} (h:(ab6 l known).or (aet l known) = none):adq l known = acy l known:=by
 unfold adq;rw [<- Option.or_assoc,h]; rfl
theorem ax1 {l:Li} {known:List Bool} (h:((ab6 l known).or (aet l known)).isSome = true):adq l known = (ab6 l known).or (aet l known):=by
 unfold adq;rw [<- Option.or_assoc]; exact (a6r h).symm
theorem ar2 (l:Li) (hl:l.ok) (hli:liE l = 0):FnC prog 48 [l.av] (.lst 4 ((adp l).map Gr.av)):=by
 have h8:=(ab3 hli).2.2.2.1;have h0:=(ab3 hli).2.2.2.2;refine gF0 func48 ?_;refine gt (aad (aky 900 rfl l (by omega) 0 (by omega)) (.cons (.tmp rfl) (.cons (.const _) .nil)) (by first | exact hH0 | exact hH1 rfl | exact hH2 rfl rfl) rfl rfl) ?_;refine gl ?_;refine gW (Wk.virt 901 4 rfl) ?_;refine gL3 [1,13] [1] (fun (i:Nat) (known:List Bool) (out:List Gr)=>[(3,some (.ms 900 1 0 known.length)),(4,some (.ms 901 4 0 out.length)),(14,some (i64 i))]) (fun _ known out=>[(900,some (.row 1 (known.map bl))),(901,some (.row 4 (out.map Gr.av)))]) (fun i known out=>i <= l.bodies.length /\ known.length = l.bodies.length /\ out.length <= i /\ aa6 l (l.bodies.length - i) known out = aa6 l l.bodies.length (aeg l.bodies.length 0) []) (fun i _ _=>l.bodies.length - i) 0 (aeg l.bodies.length 0) ([]) ⟨zero_le _,ad5 _ _,le_refl _,rfl⟩ ?_ (h1:=(.cons rfl (Sub.of (by rw [ad5])) (.k (.k .nil))))
 rintro i known out ⟨hi,hk,hol,hff⟩ K1 hK1;refine gC (fun ht15=>?_) (fun ht15=>?_) (st2:=(18,0))
 ·have hin:=abv ht15;have hd1:=Con.rekey1 900 rfl rfl rfl (ave l hl hli known hk);have hp1:=Con.rekey1 900 rfl rfl rfl (a3h l hl hli known hk);have hs1:=Con.rekey1 900 rfl rfl rfl (au8 l hl hli known hk);refine gt (aad hd1 (.cons (.tmp rfl) (.cons (.tmp rfl) .nil)) (by first | exact hH0 | exact hH1 rfl | exact hH2 rfl rfl) rfl rfl) ?_;refine gJ1 [1,5,13,14] [1,900,901] (fun (o:Option Gr)=>[(3,some (.ms 900 1 0 known.length)),(4,some (.ms 901 4 0 out.length)),(6,some (bl o.isSome))]) (fun o=>[(5,some (.box (o.getD default).av.cells))]) (fun o=>o = (ab6 l known).or (aet l known)) ?_ ?_
  ·intro K2 hK2;refine gC (fun ht23=>?_) (fun ht23=>?_)
   ·refine gt (aad hp1 (.cons (.tmp rfl) (.cons (.tmp rfl) .nil)) (by first | exact hH0 | exact hH1 rfl | exact hH2 rfl rfl) rfl rfl) ?_;exact jK1 hK2 (aet l known) (by rw [api (ahu ht23)]; rfl)
   ·exact jK1 hK2 (ab6 l known) (a6r (ahv ht23))
  ·rintro o ho;refine gJ1 [1,5,13,14] [1,900,901] (fun (og:Option Gr)=>[(3,some (.ms 900 1 0 known.length)),(4,some (.ms 901 4 0 out.length)),(6,some (bl og.isSome))]) (fun og=>[(5,some (.box (og.getD default).av.cells))]) (fun og=>og = adq l known) ?_ ?_
   ·intro K3 hK3;refine gC (fun ht31=>?_) (fun ht31=>?_)
    ·refine gt (aad hs1 (.cons (.tmp rfl) (.cons (.tmp rfl) .nil)) (by first | exact hH0 | exact hH1 rfl | exact hH2 rfl rfl) rfl rfl) ?_;exact jK1 hK3 (acy l known) (by have:=api (ahu ht31); rw [ho] at this; exact (av7 this).symm)
    ·exact jK1 hK3 o (by rw [ho]; exact (ax1 (by rw [<- ho]; exact ahv ht31)).symm)
   ·rintro og hog;refine gC (fun ht39=>?_) (fun ht39=>?_) (st1:=(18,0))
    ·have hn : adq l known = none := by rw [<- hog]; exact api (ahu ht39)
     have hfin:adp l = out:=by unfold adp; rw [<- hff,a45 hn]
     refine gW ((Wk.freeze (k:=901) rfl).trans <| Wk.of (sl:=[(4,some (.lst 4 ((adp l).map Gr.av)))]) (hp:=[]) (.cons rfl (Sub.of (by rw [hfin,abu (by rw [length_map])])) .nil) .nil) ?_;refine gE1 ?_;rfl
    ·obtain ⟨g, hg⟩:∃ g, og = some g:=Option.isSome_iff_exists.1 (ahv ht39);have hng:adq l known = some g:=by rw [<- hog,hg]
     have hgo:=atd hli hng;subst hg;refine gs (aa5 (.tmp rfl) rfl (by rw [length_map]) (.tmp rfl) T58 rfl T64 rfl rfl (by dsimp only; simp only [length_cons,length_nil]; omega) rfl rfl) ?_ (12,0);refine gW (Wk.of (sl:=[(1,some (.ptr 1 0)),(3,some (.ms 900 1 0 known.length)),(4,some (.ms 43 4 0 (out ++ [g]).length)),(5,some (.ptr 5 0)),(13,some (i64 l.bodies.length)),(14,some (i64 i))]) (hp:=[(1,some (.box l.av.cells)),(5,some (.box g.av.cells)),(900,some (.row 1 (known.map bl))),(43,some (.row 4 ((out ++ [g]).map Gr.av)))]) (.k (.k (.cons rfl (Sub.of (by rw [length_append]; rfl)) (.k (.k (.k .nil)))))) (.cons rfl (.refl _) (.cons rfl (.refl _) (.cons rfl (.refl _) (.cons rfl (BlkSub.of (by rw [map_append]; rfl)) .nil))))) ?_ (12,0)
     refine gW (Wk.rekey (k:=43) (d:=901) rfl rfl) ?_;refine gl ?_;refine gL2 [1,13,14,45,46] [1,901] (fun (q:Nat) (kk:List Bool)=>[(3,some (.ms 900 1 0 kk.length)),(4,some (.ms 901 4 0 (out ++ [g]).length)),(47,some (i64 q))]) (fun _ kk=>[(900,some (.row 1 (kk.map bl)))]) (fun q kk=>q <= g.bodies.length /\ kk.length = l.bodies.length /\ aat kk (g.bodies.drop q) = aat known g.bodies) (fun q _=>g.bodies.length - q) 0 known ⟨zero_le _,hk,rfl⟩ ?_;rintro q kk ⟨hq,hkk,hmk⟩ K4 hK4;refine gC (fun ht48=>?_) (fun ht48=>?_)
     ·have hqn:=abv ht48;obtain ⟨x,hx⟩:=acj hqn;have hxb:=hgo.b x (mem_of_getElem? hx);obtain ⟨v,hv⟩:∃ v,kk[x.toNat]? = some v:=acj (by omega);refine gi (aai hx) ?_;refine gs (aic (.tmp rfl) (.tmp rfl) T185 rfl T4 rfl (by omega) (by omega) rfl) ?_;refine gs (aa2 (.tmp rfl) rfl (by rw [Nat.zero_add,getElem?_map,hv]; rfl) rfl (.const _) rfl rfl T4 rfl rfl) ?_;refine ga (at8 (by have:=hgo.lb; unfold ac0; omega)) ?_;exact gK2 hK4 (q + 1) (kk.set x.toNat true) ⟨hqn,by rw [length_set]; exact hkk,by rw [<- aox hx]; exact hmk⟩ (hw:=Wk.of (.cons rfl (Sub.of (by rw [length_set])) (.k (.k (.k (.k (.k (.k (.k .nil)))))))) (.cons rfl (BlkSub.of (by rw [map_set,Nat.zero_add]; rfl)) (.cons rfl (.refl _) (.cons rfl (.refl _) .nil))))
     ·have hqn:=aau hq ht48;have hmk2:kk = aat known g.bodies:=by rw [hqn,List.drop_length] at hmk; exact hmk
      refine ga aa0 ?_;exact gK3 hK1 (i + 1) kk (out ++ [g]) ⟨hin,hkk,by rw [length_append]; simp only [length_cons,length_nil]; omega,by rw [hmk2,<- a4v hng,<- hff]; congr 1; omega⟩
 ·have hin:=aau hi ht15;have hfin:adp l = out:=by unfold adp; rw [<- hff,show l.bodies.length - i = 0 by omega]; rfl
  refine gW ((Wk.freeze (k:=901) rfl).trans <| Wk.of (sl:=[(4,some (.lst 4 ((adp l).map Gr.av)))]) (hp:=[]) (.cons rfl (Sub.of (by rw [hfin,abu (by rw [length_map])])) .nil) .nil) ?_;refine gE1 ?_;rfl
end Go.Lw
