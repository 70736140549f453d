/- DyadSolves: for any linkage, any group and turn, any assembly the law returns true and leaves its arguments as they were. No other condition. Part 5 of 8: what the later parts need -/
import Derived.Test.YtnhbhlcebbmdoaaGreatYd
set_option linter.unusedVariables false
open List (mem_of_getElem? mem_append map_cons mem_cons length_cons length_nil getD_eq_getElem?_getD all_eq_true getElem?_map map_append length_take take_of_length_le drop_zero take_length not_mem_nil length_map mem_of_mem_take map_take all_append length_replicate map_replicate map_set)
open Nat (eq_of_beq_eq_true le_refl lt_or_ge le_trans zero_le)
open Option (map_eq_some_iff)
open Bool (and_eq_true)
open Int (toNat_natCast natAbs_natCast)
open Go.Proofs.Tryz
namespace Go.Lw
open Go.Proofs
theorem asn (m:List Nat) (hm:Ws m) (hl:m.length <= lim):FnC prog 206 [ws m] (bl (!decide (m = []) && (⟨false, m⟩:Wh).valid)):=by
 refine gF0 func206 ?_;refine gl ?_;refine glG ?_;refine gaG (fun h=>(ad9 (by simp [aaa] at h; omega) (by unfold lim at hl; unfold ac8; exact le_trans hl oz))) ?_;refine giG (fun h=>(ai3 (i:=m.length - 1) (by simp [aaa] at h; omega))) ?_;refine gE1 ?_
 by_cases h:m = []
 ·subst h; rfl
 ·have h1:0 < m.length:=List.length_pos_iff.2 h;have h2:aaa .gtr (m.length:Int) 0 = true:=by simp [aaa,h1]
  simp only [bl,h,decide_false,Bool.not_false,Bool.true_and,Wh.valid,List.getLast?_eq_getElem?,aeb (show m.length - 1 < m.length by omega),aaa];congr 2;generalize aac m _ = x;rw [Bool.eq_iff_iff]; simp [h1]
theorem arb:FnC prog 51 [] (zA 1):=by
 refine gF0 func51 ?_;refine gc (a2u 1 oz) ?_;refine gE1 ?_
 first | rfl | (simp; done)
theorem ahh (r:Rt) (h:r.ok):FnC prog 103 [r.av] (bl r.valid):=by
 have hr:=h;have hn:=h.n0;have hd:=h.d0;have hl1:r.num.length <= 137438953472:=h.2.2.1;have hl2:r.den.length <= 137438953472:=h.2.2.2;refine gF0 func103 ?_;refine gl ?_;refine glG ?_;refine gC (fun ht12=>?_) (fun ht12=>?_)
 ·have h0 : r.num = [] /\ r.den = [] := by simpa [aaa] using ht12
  refine gE1 ?_;unfold Rt.valid; rw [if_pos h0]; rfl
 ·have h0:¬ (r.num = [] /\ r.den = []):=by
   have:=ht12;simp [aaa] at this;exact fun h=>this h.1 h.2
  refine gc (asn r.num hr.1 hr.2.2.1) ?_;refine gcG (fun _=>(asn r.den hr.2.1 hr.2.2.2)) ?_;refine gcG (fun _=>(ay4 r.n0 r.d0 hn hd (by show r.num.length + r.den.length < _; unfold big; omega))) ?_;refine gcG (fun _=>arb) ?_;refine gcG (fun _=>(bo2 (Rt.gcd_zs hr) zs1)) ?_;refine gE1 ?_;exact congrArg bl (bbd h0).symm
theorem ad3 (r:Rt) (h:r.ok):FnC prog 208 [r.av] (.tup [zA r.q.num, zA r.q.den]):=by
 have hl1:r.num.length <= 137438953472:=h.2.2.1;have hl2:r.den.length <= 137438953472:=h.2.2.2;refine gF0 func208 ?_;refine gc (ahh r h) ?_;refine glG ?_;refine gC (fun ht12=>?_) (fun ht12=>?_)
 ·have h0:¬ (r.valid = true /\ r.num ≠ []):=by
   have:=ht12;intro h';simp [aaa,h'.1,h'.2] at this
  refine gc arb ?_;refine gR ?_;exact abc (by rw [Rt.zero h0]; exact Sub.tup (.cons bfr (.cons (.refl _) .nil)))
 ·have h0:r.valid = true /\ r.num ≠ []:=by
   have:=ht12;cases hv:r.valid
   ·rw [hv] at this; cases this
   ·rw [hv] at this; exact ⟨rfl,by simpa [aaa] using this⟩
  obtain ⟨e1,e2,e3,e4,e5,e6⟩:=Rt.parts h h0.1 h0.2;refine gD ?_;refine gE2 ?_;rw [e1,e2]; exact a2m e3 e4 e5
theorem aik {n d:Int} (hn:Zs n) (hd:Zs d) (h0:d ≠ 0):FnC prog 49 [zA n, zA d] (qA (Rat.divInt n d)):=by
 refine gF0 func49 ?_;refine gc (au8 hn) ?_;refine gC (fun ht14=>?_) (fun ht14=>?_)
 ·have e0 : n = 0 := Int.sign_eq_zero_iff_zero.1 (by simpa [aaa] using ht14);refine gR ?_;exact adv (by rw [e0,Rat.zero_divInt]; exact ai1)
 ·have e0 : n ≠ 0 := fun h => by rw [h] at ht14; cases ht14
  refine gc (au8 hd) ?_;refine gJ2 [2,3,4] [4] (fun (n1 d1:Int)=>[]) (fun n1 d1=>[(2,some (.box (zA n1).cells)),(3,some (.box (zA d1).cells))]) (fun n1 d1=>0 < d1 /\ n1 ≠ 0 /\ Zs n1 /\ Zs d1 /\ Rat.divInt n1 d1 = Rat.divInt n d) ?_ ?_
  ·intro K1 hK1;refine gC (fun ht18=>?_) (fun ht18=>?_)
   ·have e1 : d < 0 := Int.sign_eq_neg_one_iff_neg.1 (by have := Int.sign_trichotomy d; have h9 : d.sign < 0 := (by simpa [aaa] using ht18); omega);refine gc (bbm hn) ?_;refine gc (bbm hd) ?_;refine gD ?_;exact jK2 hK1 (-n) (-d) ⟨by omega,by omega,hn.neg,hd.neg,arq n d⟩
   ·have e1:0 < d:=by
     have h9:0 <= d.sign:=by simpa [aaa] using ht18
     have:=Int.sign_nonneg_iff.1 h9;omega
    exact jK2 hK1 n d ⟨e1,e0,hn,hd,rfl⟩
  ·rintro n1 d1 ⟨f1, f2, f3, f4, f5⟩;have g2:Zs (Int.gcd n1 d1:Int):=f3.of_le (by rw [natAbs_natCast]; exact Nat.le_of_dvd oz (Int.gcd_dvd_natAbs_left _ _));have g3:(Int.gcd n1 d1:Int) ≠ 0:=by have:=Int.gcd_pos_of_ne_zero_left d1 f2; omega
   refine gc (bn9 f3 f4) ?_;refine gc (bft f3 g2 g3) ?_;refine gc (bft f4 g2 g3) ?_;refine gE1 ?_;rw [<- f5,<- bfd f1 f2]; rfl
theorem a48 {n d:Int} (hn:Zs n) (hd:Zs d):FnC prog 281 [zA n, zA d] (.tup [qA (Rat.divInt n d), i64 (if d = 0 then 8 else 0)]):=by
 refine gF0 func281 ?_;refine gc (au8 hd) ?_;refine gC (fun ht8=>?_) (fun ht8=>?_)
 ·have h0 : d = 0 := Int.sign_eq_zero_iff_zero.1 (by simpa [aaa] using ht8);refine gR ?_;exact abc (by rw [if_pos h0,h0,Rat.divInt_zero]; exact Sub.tup (.cons ai1 (.cons (.refl _) .nil)))
 ·have h0 : d ≠ 0 := fun h => by rw [h] at ht8; cases ht8
  refine gc (aik hn hd h0) ?_;refine gE2 ?_;rw [if_neg h0]; rfl
theorem ahy (n:Int) (h:-9223372036854775808 <= n /\ n <= 9223372036854775807):FnC prog 15 [i64 n] (qA n):=by
 have hz:Zs n:=⟨2,by omega,by unfold Lz; simp only [Nat.reducePow]; omega⟩
 refine gF0 func15 ?_;refine gc (a2u n h) ?_;refine gc arb ?_;refine gc (aik hz zs1 oz) ?_;refine gE1 ?_;exact congrArg qA (Rat.num_divInt_den (n:Rat))
theorem azq (a:Rt) (ha:a.ok):FnC prog 212 [a.av] (qA (-a.q)):=by
 have za:=ha.qs;refine gF0 func212 ?_;refine gc (ad3 a ha) ?_;refine gc (bbm za.num) ?_;refine gc (aik za.num.neg za.den (by have:=a.q.den_nz; omega)) ?_;refine gD ?_;refine gE1 ?_;rw [a9s]; rfl
theorem ak6 (a:Rt) (ha:a.ok):FnC prog 104 [a.av] (i64 (ag3 a.q)):=by
 refine gF0 func104 ?_;refine gc (ad3 a ha) ?_;refine gc (au8 ha.qs.num) ?_;refine gE1 ?_;rw [a2y]
theorem ann (a b:Rt) (ha:a.ok) (hb:b.ok):FnC prog 105 [a.av, b.av] (qA (a.q + b.q)):=by
 have za:=ha.qs;have zb:=hb.qs;have m1:=za.mul zb;have m2:=zb.mul za;refine gF0 func105 ?_;refine gc (ad3 a ha) ?_;refine gc (ad3 b hb) ?_;refine gc (aqz za.num zb.den) ?_;refine gc (aqz zb.num za.den) ?_;refine gc (bmu m1.1 m2.1) ?_;refine gc (aqz za.den zb.den) ?_;refine gc (aik (za.cross zb) m1.2.2.1 (Int.mul_ne_zero (by have:=a.q.den_nz; omega) (by have:=b.q.den_nz; omega))) ?_;refine gD ?_;refine gE1 ?_;rw [a1t]; rfl
theorem axn (a b:Rt) (ha:a.ok) (hb:b.ok):FnC prog 108 [a.av, b.av] (qA (a.q - b.q)):=by
 refine gF0 func108 ?_;refine gc (azq b hb) ?_;refine gc (ann a (rt (-b.q)) ha hb.qs.neg.ok) ?_;refine gD ?_;refine gE1 ?_;rw [agm,<- Rat.sub_eq_add_neg]; rfl
theorem azf (a b:Rt) (ha:a.ok) (hb:b.ok):FnC prog 106 [a.av, b.av] (qA (a.q * b.q)):=by
 have za:=ha.qs;have zb:=hb.qs;have m1:=za.mul zb;refine gF0 func106 ?_;refine gc (ad3 a ha) ?_;refine gc (ad3 b hb) ?_;refine gc (aqz za.num zb.num) ?_;refine gc (aqz za.den zb.den) ?_;refine gc (aik m1.2.1 m1.2.2.1 (Int.mul_ne_zero (by have:=a.q.den_nz; omega) (by have:=b.q.den_nz; omega))) ?_;refine gD ?_;refine gE1 ?_;rw [a0k]; rfl
theorem aya (a b:Rt) (ha:a.ok) (hb:b.ok):FnC prog 211 [a.av, b.av] (.tup [qA (a.q / b.q), i64 (if b.q = 0 then 8 else 0)]):=by
 have za:=ha.qs;have zb:=hb.qs;have m1:=za.mul zb;refine gF0 func211 ?_;refine gc (ad3 a ha) ?_;refine gc (ad3 b hb) ?_;refine gc (aqz za.num zb.den) ?_;refine gc (aqz za.den zb.num) ?_;refine gc (a48 m1.1 m1.2.2.2) ?_;refine gD ?_;refine gE2 ?_
 have e1:((a.q.den:Int) * b.q.num = 0) = (b.q = 0):=by
  apply propext;rw [<- Rat.num_eq_zero,Int.mul_eq_zero];exact ⟨fun h=>h.resolve_left (by have:=a.q.den_nz; omega),.inr⟩
 simp only [a1b,e1];rfl
theorem ayq (a b:Rt) (ha:a.ok) (hb:b.ok) (hs:Qs (a.q - b.q)):FnC prog 202 [a.av, b.av] (i64 (ag3 (a.q - b.q))):=by
 refine gF0 func202 ?_;refine gc (axn a b ha hb) ?_;refine gc (ak6 (rt (a.q - b.q)) hs.ok) ?_;refine gE1 ?_;rw [agm]
end Go.Lw
namespace Go.Lw
open Go.Proofs
theorem afa {α:Type} (f:α -> AV) (l:List α) (hl:l.length <= 281474976710656):FnC prog 242 [.lst 3 (l.map f)] (i64 (lvl l.length)):=by
 refine gF0 func242 ?_;refine gL1 [0] [] (fun (k:Nat)=>[(3,some (i64 k))]) (fun _=>[]) (fun k=>k <= 48 /\ ∀ j,j < k -> 2 ^ j < l.length) (fun k=>48 - k) 0 ⟨by omega,fun j h=>by omega⟩ ?_;rintro k ⟨hk,hj⟩ K1 hK1;refine gs (ae3 (.const _) (.tmp rfl) oz (agj oz) rfl) ?_;refine gl ?_;refine gC (fun ht8=>?_) (fun ht8=>?_)
 ·have h1 : 2 ^ k < l.length := by have := ht8; simp only [aaa, decide_eq_true_eq] at this; omega
  have h2:k < 48:=by
   rcases lt_or_ge k 48 with h | h
   ·exact h
   ·have:2 ^ 48 <= 2 ^ k:=aax h;have:(2:Nat) ^ 48 = 281474976710656:=by decide
    omega
  refine ga (aa7 oz) ?_;exact gK1 hK1 (k + 1) ⟨by omega,fun j h=>by rcases lt_or_ge j k with h3 | h3; exact hj j h3; (have:j = k:=by omega); subst this; exact h1⟩
 ·have h1 : l.length <= 2 ^ k := by have := ht8; simp only [aaa, decide_eq_false_iff_not] at this; omega
  have h2:=a9g hj h1;refine gs (ae3 (.const _) (.tmp rfl) oz (agj oz) rfl) ?_;refine gl ?_;refine gC (fun ht15=>?_) (fun ht15=>?_)
  ·have h3 : 2 ^ k ≠ l.length := by have := ht15; simp only [aaa, bne_iff_ne, ne_eq] at this; omega
   refine gE1 ?_;unfold lvl; rw [h2,if_neg h3]; rfl
  ·have h3 : 2 ^ k = l.length := by have := ht15; simp only [aaa, bne_eq_false_iff_eq] at this; omega
   refine gE1 ?_;unfold lvl; rw [h2,if_pos h3]
theorem alp (ts:List (List Rt)) (a:List Rt) (ha:∀ r ∈ a, r.ok) (hl:a.length <= 281474976710656) (ht:ts.length <= 281474976710656):FnC prog 157 [ahu ts, nR a] (ai2 (aic ts.length a)):=by
 refine gF0 func157 ?_;refine gl ?_;refine gJ0 [1,4] [] [] [] (¬ (a ≠ [] /\ (lvl a.length < 0 \/ (ts.length:Int) < lvl a.length))) ?_ ?_
 ·intro K1 hK1;refine gC (fun ht10=>?_) (fun ht10=>?_)
  ·have h0 : a ≠ [] := fun h => by rw [h] at ht10; simp [aaa] at ht10
   refine gc (afa Rt.av a hl) ?_;refine glG ?_;refine gC (fun ht21=>?_) (fun ht21=>?_)
   ·have h1:lvl a.length < 0 \/ (ts.length:Int) < lvl a.length:=by
     have h9:=ht21
     by_cases h:lvl a.length < 0
     ·exact .inl h
     ·simp only [aaa,decide_eq_false h,cond_false,decide_eq_true_eq] at h9; exact .inr h9
    refine gE1 ?_;unfold aic; rw [if_pos ⟨h0,h1⟩]; rfl
   ·have h1:¬ (lvl a.length < 0 \/ (ts.length:Int) < lvl a.length):=by
     have h9:=ht21
     by_cases h:lvl a.length < 0
     ·simp only [aaa,decide_eq_true h,cond_true] at h9; cases h9
     ·simp only [aaa, decide_eq_false h, cond_false, decide_eq_false_iff_not] at h9;exact fun h'=>h'.elim h h9
    exact jK0 hK1 (fun h=>h1 h.2)
  ·have h0:a = []:=by
    cases a with
    | nil=>rfl
    | cons c l=>simp [aaa] at ht10
   exact jK0 hK1 (fun h=>h.1 h0)
 ·rintro hn;refine gl ?_;refine gL1 [23,24] [] (fun (i:Nat)=>[(25,some (i64 i))]) (fun _=>[]) (fun i=>i <= a.length /\ (a.take i).all Rt.valid = true) (fun i=>a.length - i) 0 ⟨zero_le _,by simp⟩ ?_;rintro i ⟨hi,hv⟩ K2 hK2;refine gC (fun ht26=>?_) (fun ht26=>?_)
  ·have hin : i < a.length := by simpa [aaa] using ht26
   obtain ⟨r,hr⟩:=ab5 hin;have hrok:=ha r (mem_of_getElem? hr);refine gi (aag hr) ?_;refine gc (adn r hrok) ?_;refine gC (fun ht31=>?_) (fun ht31=>?_)
   ·have hrv : r.valid = false := by simpa using ht31
    refine gE1 ?_;unfold aic;rw [if_neg hn,if_neg]
    ·rfl
    ·rw [all_eq_true];intro h;rw [h r (mem_of_getElem? hr)] at hrv; cases hrv
   ·have hrv : r.valid = true := by simpa using ht31
    refine ga aat ?_;exact gK1 hK2 (i + 1) ⟨by omega,by rw [aaj hr,all_append,hv]; simp [hrv]⟩
  ·have hin : i = a.length := by have : a.length <= i := (by simpa [aaa] using ht26); omega
   subst hin;rw [take_length] at hv;refine gE1 ?_;unfold aic; rw [if_neg hn,if_pos hv]; rfl
theorem apo (a:List Rat) (ha:∀ q ∈ a, Qs q) (hl:a.length <= 281474976710656):FnC prog 292 [nA a] (bl (abz a)):=by
 refine gF0 func292 ?_;refine gl ?_;refine gL1 [5,6] [] (fun (i:Nat)=>[(7,some (i64 i))]) (fun _=>[]) (fun i=>i <= a.length /\ abz (a.take i) = true) (fun i=>a.length - i) 0 ⟨zero_le _,by simp [abz]⟩ ?_;rintro i ⟨hi,hv⟩ K1 hK1;refine gC (fun ht8=>?_) (fun ht8=>?_)
 ·have hin : i < a.length := by simpa [aaa] using ht8
  obtain ⟨q,hq⟩:=ab5 hin;have hqs:=ha q (mem_of_getElem? hq);refine gi (aag hq) ?_;refine gc (afd (rt q) hqs.ok) ?_;refine gC (fun ht13=>?_) (fun ht13=>?_)
  ·have h0:q ≠ 0:=by
    intro h;have h9:=ht13;rw [agm,h] at h9;cases h9
   refine gE1 ?_
   have:abz a = false:=by
    rw [Bool.eq_false_iff];intro h;exact h0 (by simpa using List.all_eq_true.1 h q (mem_of_getElem? hq))
   rw [this]; rfl
  ·have h0:q = 0:=by
    have h9:ag3 q = 0:=by have:=ht13; rw [agm] at this; simpa [aaa] using this
    exact afg h9
   refine ga aat ?_;exact gK1 hK1 (i + 1) ⟨by omega,by rw [aaj hq]; simp only [abz,all_append,and_eq_true]; exact ⟨hv,by simp [h0]⟩⟩
 ·have hin : i = a.length := by have : a.length <= i := (by simpa [aaa] using ht8); omega
  subst hin;rw [take_length] at hv;refine gE1 ?_;rw [hv]; rfl
theorem anm (a:List Rat) (hl:a.length <= 281474976710656):FnC prog 261 [nA a] (bl (abz a)):=by
 refine gF0 func261 ?_;refine gl ?_;refine gL1 [5,6] [] (fun (i:Nat)=>[(7,some (i64 i))]) (fun _=>[]) (fun i=>i <= a.length /\ abz (a.take i) = true) (fun i=>a.length - i) 0 ⟨zero_le _,by simp [abz]⟩ ?_;rintro i ⟨hi,hv⟩ K1 hK1;refine gC (fun ht8=>?_) (fun ht8=>?_)
 ·have hin : i < a.length := by simpa [aaa] using ht8
  obtain ⟨q,hq⟩:=ab5 hin;refine gi (aag hq) ?_;refine glG ?_;refine glG ?_;refine gC (fun ht24=>?_) (fun ht24=>?_)
  ·have h0:q ≠ 0:=a2h ht24;refine gE1 ?_
   have:abz a = false:=by
    rw [Bool.eq_false_iff];intro h;exact h0 (by simpa using List.all_eq_true.1 h q (mem_of_getElem? hq))
   rw [this]; rfl
  ·have h0:q = 0:=aza ht24;refine ga aat ?_;exact gK1 hK1 (i + 1) ⟨by omega,by rw [aaj hq]; simp only [abz,all_append,and_eq_true]; exact ⟨hv,by simp [h0]⟩⟩
 ·have hin : i = a.length := by have : a.length <= i := (by simpa [aaa] using ht8); omega
  subst hin;rw [take_length] at hv;refine gE1 ?_;rw [hv]; rfl
theorem aih (a:List Rat) (ha:∀ q ∈ a, Qs q) (hl:a.length <= 1099511627776):FnC prog 194 [nA a] (nA a):=by
 refine gF0 func194 ?_;refine gl ?_;refine gW (Wk.virt 900 3 rfl) ?_;refine gL1 [6,7] [] (fun (i:Nat)=>[(3,some (.ms 900 3 0 i)),(8,some (i64 i))]) (fun i=>[(900,some (.row 3 ((a.take i).map qA)))]) (fun i=>i <= a.length) (fun i=>a.length - i) 0 (zero_le _) ?_;rintro i hi K1 hK1;refine gC (fun ht9=>?_) (fun ht9=>?_) (st2:=(7,0))
 ·have hin : i < a.length := by simpa [aaa] using ht9
  obtain ⟨q,hq⟩:=ab5 hin;have hqs:=(ha q (mem_of_getElem? hq)).ok;have hl1:(rt q).num.length <= 137438953472:=hqs.2.2.1;have hl2:(rt q).den.length <= 137438953472:=hqs.2.2.2;refine gi (aag hq) ?_;refine gs (acy T27 rfl T218 rfl rfl rfl) ?_;refine gs (aep (.tmp rfl) rfl rfl (.tmp rfl) T27 rfl T218 rfl rfl (by simp only [length_map]; omega) rfl rfl) ?_;refine gs (acy T27 rfl T218 rfl rfl rfl) ?_;refine gs (aep (.tmp rfl) rfl rfl (.tmp rfl) T27 rfl T218 rfl rfl (by simp only [length_map]; omega) rfl rfl) ?_;refine gs (aa0 (.tmp rfl) rfl (by simp; omega) (.tmp rfl) T46 rfl T29 rfl rfl (by simp; omega) rfl rfl) ?_;refine gD ?_ (6,0);refine gW (Wk.of (sl:=[(3,some (.ms 25 3 0 (i + 1))),(6,some (nA a)),(7,some (i64 a.length)),(8,some (i64 i))]) (hp:=[(25,some (.row 3 ((a.take (i + 1)).map qA)))]) aa6 (.cons rfl (BlkSub.of (by rw [aaj hq,map_append]; rfl)) .nil)) ?_ (6,0);refine gW (Wk.rekey (k:=25) (d:=900) rfl rfl) ?_;refine ga aat ?_;exact gK1 hK1 (i + 1) hin
 ·have hin : i = a.length := by have : a.length <= i := (by simpa [aaa] using ht9); omega
  subst hin;refine gW ((Wk.freeze (k:=900) rfl).trans <| Wk.of (sl:=[(3,some (nA a))]) (hp:=[]) (.cons rfl (Sub.of (by rw [abq (by simp),take_length]; rfl)) .nil) .nil) ?_;refine gE1 ?_;rfl
end Go.Lw
namespace Go.Lw
open Go.Proofs
theorem acc {n:Nat} (a:List Rat) (hn:n <= 5) (ha:Nl n a) (hs:∀ q ∈ a, Qs q):FnC prog 164 [nA a] (nA (sh n (dec n a))):=by
 have hl:=ha.len5 hn;rw [<- aj9 ha hn];refine gF0 func164 ?_;refine gc (afa qA a oz) ?_;refine gl ?_;refine gC (fun ht17=>?_) (fun ht17=>?_) (st1:=(3,0))
 ·exact absurd ht17 (by rcases ha with rfl | ⟨j,hj,h⟩; (simp [aaa]); (rw [h,ao6]; simp [aaa]; omega))
 ·refine gl ?_;refine gL1 [0] [] (fun (m:Nat)=>[(4,some (i64 m))]) (fun _=>[]) (fun m=>bfi a m) (fun m=>m) a.length (bap (ha.mono hn)) ?_;rintro m hm K1 hK1;refine gs (acj rfl rfl rfl (fun h=>adg (.opt rfl (o1 h)) (.const _) oz (ab3 (by have:=hm.le; omega)) rfl)) ?_;refine gs (acj rfl rfl rfl (fun h=>aam (.opt rfl (o1 h)) (.some _ (.opt rfl (o1 h)) oz) (.some _ (.opt rfl (o1 h)) oz) T46 rfl T29 rfl oz (by have:=hm.le; simp; omega) rfl)) ?_;refine gcG (fun _=>(by have h9:=anm ((a.drop (m / 2)).take (m - m / 2)) (by simp; omega); rw [<- ayy] at h9; exact h9)) ?_;refine gC (fun ht31=>?_) (fun ht31=>?_)
  ·have h1:1 < m /\ abz ((a.drop (m / 2)).take (m - m / 2)) = true:=by
    have h9:=ht31
    by_cases h:(m:Int) > 1
    ·simp only [aaa,decide_eq_true h,cond_true] at h9; exact ⟨by omega,h9⟩
    ·simp only [aaa,decide_eq_false h,cond_false] at h9; cases h9
   refine gs (adg (.tmp rfl) (.const _) oz (ab3 (by have:=hm.le; omega)) rfl) ?_;exact gK1 hK1 (m / 2) (a84 hm h1.1 h1.2)
  ·have h1:1 < m -> abz ((a.drop (m / 2)).take (m - m / 2)) = false:=by
    intro h;have h9:=ht31;simp only [aaa,decide_eq_true (show (m:Int) > 1 by omega),cond_true] at h9;exact h9
   refine gs (acj rfl rfl rfl (fun h=>aam (.opt rfl (o1 h)) (.none _) (.some _ (.const _) oz) T46 rfl T29 rfl oz (by have h8:(m:Int) = 1:=(by simpa [aaa] using h); have:=hm.le; simp only [length_map]; omega) rfl)) ?_;refine gcG (fun _=>(by have h9:=anm ((a.drop 0).take 1) (by simp; omega); rw [<- ayy] at h9; exact h9)) ?_;refine gC (fun ht40=>?_) (fun ht40=>?_)
   ·have h2:m = 1 /\ abz (a.take 1) = true:=by
     have h9:=ht40
     by_cases h:m = 1
     ·rw [h] at h9; exact ⟨h,h9⟩
     ·rw [show aaa .eql (m:Int) 1 = false by simp [aaa]; omega] at h9; cases h9
    obtain ⟨rfl,h3⟩:=h2;refine gR ?_;exact adv (by rw [a7s hm h3]; exact Sub.nil _ _ _)
   ·have h2:m = 1 -> abz (a.take 1) = false:=by
     intro h;have h9:=ht40;rw [h] at h9; exact h9
    have h3:=a6u hm h1 h2;refine gs (aam (.tmp rfl) (.none _) (.some _ (.tmp rfl) oz) T46 rfl T29 rfl oz (by have:=hm.le; simp; omega) rfl) ?_;refine gc (by have h9:=aih ((a.drop 0).take m) (fun q hq=>hs q (List.mem_of_mem_drop (mem_of_mem_take hq))) (by simp; omega); have h8:=h9; rw [<- ayy] at h9; exact h9) ?_;refine gE1 ?_;rw [h3];simp [nA,map_take]
theorem ai5 (d:Nat) (hd:Nat.blt d 1000 = true) (a:List Rat) (n:Nat) (hl:a.length <= n) (hn:n <= 1099511627776) :
  Con prog 275 [nA a,i64 n] [] (.ms d 3 0 n) [(d,some (.row 3 ((aay a n).map qA)))]:=by
 refine gF func275 (fun k z h=>by cases h) ?_;refine gs (agr (.tmp rfl) T46 rfl T29 rfl rfl oz (by dsimp only; omega) rfl) ?_;refine gs (bom (.tmp rfl) rfl (by simp) (.tmp rfl) T46 rfl T29 rfl rfl (by simp; omega) rfl) ?_ (3,0);refine gW (Wk.of (sl:=[(5,some (.ms 7 3 0 n))]) (hp:=[(7,some (.row 3 ((aay a n).map qA)))]) (.cons rfl (Sub.of (by simp)) .nil) (.cons rfl (a16 a n hl) .nil)) ?_;refine gR ?_;exact Fin.own1 rfl hd rfl
theorem aj3 (a:List Rat) (n:Nat) (hl:a.length <= n) (hn:n <= 1099511627776):FnC prog 275 [nA a, i64 n] (nA (aay a n)):=by
 have h:=Con.freeze (by rw [length_map,abm hl]; omega) (ai5 0 rfl a n hl hn);rw [drop_zero,take_of_length_le (by rw [length_map,abm hl]; exact le_refl _)] at h;exact h
theorem ae4 (a b:List Rat) (ha:∀ q ∈ a, Qs q) (hb:∀ q ∈ b, Qs q) (la:a.length <= 1099511627776) (lb:b.length <= 1099511627776):FnC prog 233 [nA a, nA b] (nA (acx a b)):=by
 obtain ⟨n,hn⟩:∃ n,n = max a.length b.length:=⟨_,rfl⟩
 have hwa:=abm (show a.length <= n by omega);have hwb:=abm (show b.length <= n by omega);have hp:=abp (a:=a) (b:=b);rw [<- hn] at hp;have qa:∀ q ∈ aay a n,Qs q:=fun q hq=>by rcases List.mem_append.1 hq with h | h; exact ha q h; (rw [(List.mem_replicate.1 h).2]; exact Qs.zero)
 have qb:∀ q ∈ aay b n,Qs q:=fun q hq=>by rcases List.mem_append.1 hq with h | h; exact hb q h; (rw [(List.mem_replicate.1 h).2]; exact Qs.zero)
 refine gF0 func233 ?_;refine gl ?_;refine gl ?_;refine gs (a5v (.tmp rfl) (.tmp rfl) rfl) ?_ (2,0);refine gW (Wk.of (sl:=[(0,some (nA a)),(1,some (nA b)),(5,some (i64 n))]) (hp:=[]) (.k (.k (.cons rfl (Sub.int oz) .nil))) .nil) ?_;refine go ?_;refine gt (aab (ai5 900 rfl a n oz oz) (ev2 rfl rfl) hHa rfl rfl) ?_;refine gc (aj3 b n oz oz) ?_;refine gL1 [1,19] [] (fun (i:Nat)=>[(0,some (.ms 900 3 0 n)),(20,some (i64 i))]) (fun i=>[(900,some (.row 3 (((acx a b).take i ++ (aay a n).drop i).map qA)))]) (fun i=>i <= n) (fun i=>n - i) 0 (zero_le _) ?_;rintro i hi K1 hK1;refine gC (fun ht21=>?_) (fun ht21=>?_) (st2:=(8,0))
 ·have hin : i < n := by simpa [aaa] using ht21
  have hmx:=a0p (p:=acx a b) (w:=aay a n) (i:=i) oz oz;have hqa:=(qa _ (am5 (i:=i) oz)).ok;have hqb:=(qb _ (am5 (i:=i) oz)).ok;refine gs (aas (n:=i) (.tmp rfl) (.tmp rfl) T46 rfl T29 rfl oz oz rfl) ?_;refine gs (aaw (.tmp rfl) rfl (aag hmx) T29 rfl rfl rfl) ?_;refine gi (aag (getD_some (i:=i) (l:=aay b n) oz)) ?_;refine gc (adq (rt ((aay a n).getD i 0)) (rt ((aay b n).getD i 0)) hqa hqb) ?_;refine gs (aas (n:=i) (.tmp rfl) (.tmp rfl) T46 rfl T29 rfl oz oz rfl) ?_;refine gs (abb (.tmp rfl) rfl (aag hmx) rfl (.tmp rfl) rfl rfl T29 rfl rfl) ?_;refine gD ?_ (7,0);refine gW (Wk.of (sl:=[(0,some (.ms 900 3 0 n)),(1,some (nA (aay b n))),(19,some (i64 n)),(20,some (i64 i))]) (hp:=[(900,some (.row 3 (((acx a b).take (i + 1) ++ (aay a n).drop (i + 1)).map qA)))]) aa6 (.cons rfl (BlkSub.of (by rw [au7 oz oz (by rw [a2p,<- hn,agm,agm])])) .nil)) ?_;refine ga aat ?_;exact gK1 hK1 (i + 1) hin
 ·have hin : i = n := by have : n <= i := (by simpa [aaa] using ht21); omega
  refine gW ((Wk.freeze (k:=900) rfl).trans <| Wk.of (sl:=[(0,some (nA (acx a b)))]) (hp:=[]) (.cons rfl (Sub.of (by rw [abq (by simp; omega),hin,List.drop_of_length_le oz,take_of_length_le oz,List.append_nil]; rfl)) .nil) .nil) ?_;refine gE1 ?_;rfl
theorem ag6 (a:List Rat) (ha:∀ q ∈ a, Qs q) (la:a.length <= 1099511627776):FnC prog 165 [nA a] (nA (ab1 a)):=by
 obtain ⟨n,hn⟩:∃ n,n = a.length:=⟨_,rfl⟩
 refine gF0 func165 ?_;refine gl ?_;refine gs (agr (.tmp rfl) T46 rfl T29 rfl rfl oz (by dsimp only; omega) rfl) ?_ (2,0);refine gW (Wk.of (sl:=[(0,some (nA a)),(3,some (.ms 7 3 0 n))]) (hp:=[(7,some (.row 3 ((aay [] n).map qA)))]) (.k (.cons rfl (Sub.of (by simp [hn])) .nil)) (.cons rfl (BlkSub.of_ (a16 [] n (by simp)) (by rw [hn]; rfl)) .nil)) ?_;refine gl ?_;refine gL1 [0] [] (fun (i:Nat)=>[(3,some (.ms 7 3 0 n)),(9,some (i64 n)),(10,some (i64 i))]) (fun i=>[(7,some (.row 3 (((ab1 a).take i ++ (aay [] n).drop i).map qA)))]) (fun i=>i <= n) (fun i=>n - i) 0 (zero_le _) ?_ (h1:=(.k (.cons rfl (Sub.int oz) (.k .nil))));rintro i hi K1 hK1;refine gC (fun ht11=>?_) (fun ht11=>?_) (st2:=(7,0))
 ·have hin : i < n := by simpa [aaa] using ht11
  have hm1:=ab4 (a:=a);have hm2:=abm (a:=[]) (n:=n) (by simp);have hmx:=a0p (p:=ab1 a) (w:=aay [] n) (i:=i) oz oz;have hqa:=(ha _ (am5 (i:=i) oz)).ok;refine gi (aag (getD_some (i:=i) oz)) ?_;refine gc (alk (rt (a.getD i 0)) hqa) ?_;refine gs (aas (n:=i) (.tmp rfl) (.tmp rfl) T46 rfl T29 rfl oz oz rfl) ?_;refine gs (abb (.tmp rfl) rfl (aag hmx) rfl (.tmp rfl) rfl rfl T29 rfl rfl) ?_ (6,0);refine gW (Wk.of (sl:=[(0,some (nA a)),(3,some (.ms 7 3 0 n)),(9,some (i64 n)),(10,some (i64 i))]) (hp:=[(7,some (.row 3 (((ab1 a).take (i + 1) ++ (aay [] n).drop (i + 1)).map qA)))]) aa6 (.cons rfl (BlkSub.of (by rw [au7 oz oz (by rw [a95,agm])])) .nil)) ?_;refine ga aat ?_;exact gK1 hK1 (i + 1) hin
 ·have hin : i = n := by have : n <= i := (by simpa [aaa] using ht11); omega
  have hm1:=ab4 (a:=a);have hm2:=abm (a:=[]) (n:=n) (by simp);refine gW ((Wk.freeze (k:=7) rfl).trans <| Wk.of (sl:=[(3,some (nA (ab1 a)))]) (hp:=[]) (.cons rfl (Sub.of (by rw [abq (by simp; omega),hin,List.drop_of_length_le oz,take_of_length_le oz,List.append_nil]; rfl)) .nil) .nil) ?_;refine gE1 ?_;rfl
theorem aks (a b:List Rat) (n:Nat) (la:a.length <= n) (lb:b.length <= n) (hn:n <= 274877906944):FnC prog 293 [nA a, nA b, i64 n] (nA (afm a b n)):=by
 refine gF0 func293 ?_;refine gt (aab (ai5 900 rfl a n la oz) (ev2 rfl rfl) hHa rfl rfl) ?_;refine gc (aj3 b n lb oz) ?_;refine gs (aep (.tmp rfl) rfl (by simp [abm la]) (.tmp rfl) T46 rfl T29 rfl rfl (by simp [abm lb]; omega) rfl rfl) ?_;refine gE1 ?_;rw [<- map_append]; rfl
end Go.Lw
namespace Go.Lw
open Go.Proofs
theorem aee (ts:LL) (m r:Nat) (ht:awt ts m r) (hm:m <= 5) (hml:m <= ts.length) (k:Nat):∀ (j:Nat) (a b:List Rat) (e f:Nat), j <= m -> j <= k -> Nl j a -> Nl j b -> Cb e a -> Cb f b -> e + f + eB r j < 4398046511104 ->
  FnC prog 234 [aa5 ts,nA a,nA b] (nA (pT ts k a b)):=by
 induction k using Nat.strongRecOn
 rename_i k ih;intro j a b e f hj hjk ha hb ca cb hs;have hla:=ha.len5 oz;have hlb:=hb.len5 oz;refine gF0 func234 ?_;refine gl ?_;refine gl ?_;refine gJ4 [3] [3] (fun (x y:List Rat) (e1 f1:Nat)=>[(1,some (nA x)),(2,some (nA y))]) (fun _ _ _ _=>[]) (fun x y e1 f1=>y.length <= x.length /\ Nl j x /\ Nl j y /\ Cb e1 x /\ Cb f1 y /\ e1 + f1 = e + f /\ pT ts k a b = pT ts k x y) ?_ ?_
 ·intro K1 hK1;refine gC (fun ht18=>?_) (fun ht18=>?_)
  ·have h1 : a.length < b.length := by have := ht18; simp only [aaa, decide_eq_true_eq] at this; omega
   exact jK4 hK1 b a f e ⟨by omega,hb,ha,cb,ca,by omega,a1k ts k a b h1⟩
  ·have h1 : b.length <= a.length := by have := ht18; simp only [aaa, decide_eq_false_iff_not] at this; omega
   exact jK4 hK1 a b e f ⟨h1,ha,hb,ca,cb,rfl,rfl⟩
 ·rintro x y e1 f1 ⟨hyx, hx, hy, cx, cy, hef, hp⟩;have hlx:=hx.len5 oz;have hly:=hy.len5 oz;have qx:∀ q ∈ x,Qs q:=fun q hq=>cx.qs oz hq
  have qy:∀ q ∈ y,Qs q:=fun q hq=>cy.qs oz hq
  rw [hp];refine gc (apo x qx oz) ?_;refine gcG (fun _=>(apo y qy oz)) ?_;refine gC (fun ht21=>?_) (fun ht21=>?_)
  ·have h1:abz x = true \/ abz y = true:=by
    have:=ht21;cases hz:abz x
    ·rw [hz] at this; exact .inr this
    ·exact .inl rfl
   refine gR ?_;exact adv (by rw [bkc hyx h1]; exact Sub.nil _ _ _)
  ·have h1:¬ (abz x = true \/ abz y = true):=by
    have:=ht21;cases hz:abz x
    ·rw [hz] at this; intro h; rcases h with h | h; cases h; (rw [show abz y = false from this] at h; cases h)
    ·rw [hz] at this; cases this
   refine gl ?_;refine gC (fun ht28=>?_) (fun ht28=>?_)
   ·have h2 : x.length = 1 := by have := ht28; simp only [aaa, beq_iff_eq] at this; omega
    obtain ⟨p,rfl⟩:=List.length_eq_one_iff.1 h2;have h3:y ≠ []:=fun h=>h1 (.inr (by rw [h]; rfl))
    obtain ⟨q,rfl⟩:∃ q,y = [q]:=List.length_eq_one_iff.1 (by have:=List.length_pos_iff.2 h3; simp at hyx; omega);refine gi rfl ?_;refine gi rfl ?_;refine gc (alw (rt p) (rt q) (qx p (by simp)).ok (qy q (by simp)).ok) ?_;refine gD ?_;refine gE1 ?_;rw [bo5 h1,agm,agm]; rfl
   ·have h2 : x.length ≠ 1 := by have := ht28; simp only [aaa, beq_eq_false_iff_ne, ne_eq] at this; omega
    have h3:x ≠ []:=fun h=>h1 (.inl (by rw [h]; rfl))
    obtain ⟨i, hij, hxl⟩:∃ i, i + 1 <= j /\ x.length = 2 ^ (i + 1):=by
     rcases ah0 hx with h | h | h
     ·exact absurd (List.length_eq_zero_iff.1 h) h3
     ·exact absurd h h2
     ·exact h
    obtain ⟨k',rfl⟩:∃ k',k = k' + 1:=⟨k - 1,by omega⟩
    have hp2:=Nat.two_pow_pos i;have hpi:2 ^ i <= 32:=aax (b:=5) oz;have hps:2 ^ (i + 1) = 2 * 2 ^ i:=by rw [Nat.pow_succ]; omega
    have hes:eB r (i + 1) <= eB r j:=atl r hij;have hee:eB r (i + 1) = 2 * eB r i + r + 2:=rfl;have n1:Nl i (x.take (2 ^ i)):=.inr ⟨i,le_refl _,ac7 hxl⟩;have n2:Nl i (x.drop (2 ^ i)):=.inr ⟨i,le_refl _,adc hxl⟩;refine gl ?_;refine gs (adg (.tmp rfl) (.const _) oz (show _ = ((2 ^ i:Nat):Int) by rw [ab3 oz,hxl,abw]) rfl) ?_;refine gs (aam (.tmp rfl) (.none _) (.some _ (.tmp rfl) oz) T46 rfl T29 rfl oz (by simp only [length_map]; omega) rfl) ?_;refine gs (aam (.tmp rfl) (.some _ (.tmp rfl) oz) (.none _) T46 rfl T29 rfl (by simp only [length_map]; omega) oz rfl) ?_;refine gD ?_ (9,0);refine gW (Wk.of (sl:=[(1,some (nA x)),(2,some (nA y)),(3,some (.ptr 3 0)),(7,some (i64 ((2 ^ i:Nat):Int))),(8,some (nA (x.take (2 ^ i)))),(9,some (nA (x.drop (2 ^ i))))]) (hp:=[(3,some (.box [.lst 1 (ts.map nA)]))]) (.k (.k (.k (.k (.cons rfl (Sub.of (ag1 x (2 ^ i))) (.cons rfl (Sub.of (ae5 x (2 ^ i))) .nil)))))) (.k .nil)) ?_;refine gl ?_;refine gC (fun ht52=>?_) (fun ht52=>?_)
    ·have h4 : y.length <= 2 ^ i := by have := ht52; simp only [aaa, decide_eq_true_eq] at this; omega
     have n3:Nl i y:=a67 hy h4;have s1:=adt ts m ht.1 i k' _ _ oz oz n1 n3;have s2:=adt ts m ht.1 i k' _ _ oz oz n2 n3;refine gc (ih k' oz i _ _ e1 f1 oz oz n1 n3 cx.take cy oz) ?_;refine gc (ih k' oz i _ _ e1 f1 oz oz n2 n3 cx.drop cy oz) ?_;refine gc (aks _ _ (2 ^ i) s1.1.le s2.1.le oz) ?_;refine gD ?_;refine gE1 ?_;rw [bjp hxl h4 h1]
    ·have h4 : ¬ y.length <= 2 ^ i := by have := ht52; simp only [aaa, decide_eq_false_iff_not] at this; omega
     have hyl:=bj2 hy h4 oz;have n3:Nl i (y.take (2 ^ i)):=.inr ⟨i,le_refl _,ac7 hyl⟩;have n4:Nl i (y.drop (2 ^ i)):=.inr ⟨i,le_refl _,adc hyl⟩;have nd:=ht.1 i oz;have cd:=ht.2.cb i;have s1:=adt ts m ht.1 i k' _ _ oz oz n1 n3;have s2:=adt ts m ht.1 i k' _ _ oz oz n2 n4;have s3:=adt ts m ht.1 i k' _ _ oz oz s2.1 nd;have s4:=adt ts m ht.1 i k' _ _ oz oz n1 n4;have s5:=adt ts m ht.1 i k' _ _ oz oz n2 n3;have c1:=Cb.mul ht (k:=k') (show i <= m by omega) oz n1 n3 cx.take cy.take;have c2:=Cb.mul ht (k:=k') (show i <= m by omega) oz n2 n4 cx.drop cy.drop;have c3:=Cb.mul ht (k:=k') (show i <= m by omega) oz s2.1 nd c2 cd;have c4:=Cb.mul ht (k:=k') (show i <= m by omega) oz n1 n4 cx.take cy.drop;have c5:=Cb.mul ht (k:=k') (show i <= m by omega) oz n2 n3 cx.drop cy.take;have hpT:=bhv (ts:=ts) (k:=k') hxl h4 hyx h1;refine gs (aam (.tmp rfl) (.none _) (.some _ (.tmp rfl) oz) T46 rfl T29 rfl oz (by simp only [length_map]; omega) rfl) ?_;refine gs (aam (.tmp rfl) (.some _ (.tmp rfl) oz) (.none _) T46 rfl T29 rfl (by simp only [length_map]; omega) oz rfl) ?_;refine gD ?_ (12,0);refine gW (Wk.of (sl:=[(1,some (nA x)),(3,some (.ptr 3 0)),(7,some (i64 ((2 ^ i:Nat):Int))),(8,some (nA (x.take (2 ^ i)))),(9,some (nA (x.drop (2 ^ i)))),(10,some (nA (y.take (2 ^ i)))),(11,some (nA (y.drop (2 ^ i))))]) (hp:=[(3,some (.box [.lst 1 (ts.map nA)]))]) (.k (.k (.k (.k (.k (.cons rfl (Sub.of (ag1 y (2 ^ i))) (.cons rfl (Sub.of (ae5 y (2 ^ i))) .nil))))))) (.k .nil)) ?_;refine gc (afa qA x oz) ?_;refine ga (show _ = (i:Int) by rw [hxl,ao6,abi oz]; omega) ?_;refine gi (akf (j:=i) oz) ?_;refine gD ?_;refine gc (ih k' oz i _ _ e1 f1 oz oz n1 n3 cx.take cy.take oz) ?_;refine gc (ih k' oz i _ _ e1 f1 oz oz n2 n4 cx.drop cy.drop oz) ?_;refine gc (ih k' oz i _ _ _ _ oz oz s2.1 nd c2 cd oz) ?_;refine gc (ae4 _ _ (fun q hq=>c1.qs oz hq) (fun q hq=>c3.qs oz hq) (by have:=s1.1.le; omega) (by have:=s3.1.le; omega)) ?_;refine gD ?_;refine gc (ih k' oz i _ _ e1 f1 oz oz n1 n4 cx.take cy.drop oz) ?_;refine gc (ih k' oz i _ _ e1 f1 oz oz n2 n3 cx.drop cy.take oz) ?_;refine gc (ae4 _ _ (fun q hq=>c4.qs oz hq) (fun q hq=>c5.qs oz hq) (by have:=s4.1.le; omega) (by have:=s5.1.le; omega)) ?_;refine gc (aks _ _ (2 ^ i) (by have:=s1.1.le; have:=s3.1.le; rw [abp]; omega) (by have:=s4.1.le; have:=s5.1.le; rw [abp]; omega) oz) ?_;refine gD ?_;refine gE1 ?_;rw [hpT]
theorem akr (ts:LL) (m r:Nat) (ht:awt ts m r) (hm:m <= 5) (hml:m <= ts.length) (i:Nat) (a:List Rat) (e:Nat) (hi:i + 1 <= m) (hal:a.length = 2 ^ (i + 1)) (ca:Cb e a) (hs:4 * e + 3 * eB r i + r + 1 < 4398046511104) :
  FnC prog 244 [aa5 ts,nA a] (nA (al5 ts i a)):=by
 have hp2:=Nat.two_pow_pos i;have hpi:2 ^ i <= 32:=aax (b:=5) oz;have hps:2 ^ (i + 1) = 2 * 2 ^ i:=by rw [Nat.pow_succ]; omega
 have n1:Nl i (a.take (2 ^ i)):=.inr ⟨i,le_refl _,ac7 hal⟩;have n2:Nl i (a.drop (2 ^ i)):=.inr ⟨i,le_refl _,adc hal⟩;have nd:=ht.1 i oz;have cd:=ht.2.cb i;have s1:=adt ts m ht.1 i i _ _ oz oz n1 n1;have s2:=adt ts m ht.1 i i _ _ oz oz n2 n2;have s3:=adt ts m ht.1 i i _ _ oz oz s2.1 nd;have c1:=Cb.mul ht (k:=i) (show i <= m by omega) oz n1 n1 ca.take ca.take;have c2:=Cb.mul ht (k:=i) (show i <= m by omega) oz n2 n2 ca.drop ca.drop;have c3:=Cb.mul ht (k:=i) (show i <= m by omega) oz s2.1 nd c2 cd;refine gF0 func244 ?_;refine gl ?_;refine gs (adg (.tmp rfl) (.const _) oz (show _ = ((2 ^ i:Nat):Int) by rw [ab3 oz,hal,abw]) rfl) ?_;refine gs (aam (.tmp rfl) (.none _) (.some _ (.tmp rfl) oz) T46 rfl T29 rfl oz (by simp only [length_map]; omega) rfl) ?_;refine gs (aam (.tmp rfl) (.some _ (.tmp rfl) oz) (.none _) T46 rfl T29 rfl (by simp only [length_map]; omega) oz rfl) ?_;refine gD ?_ (3,0);refine gW (Wk.of (sl:=[(1,some (nA a)),(2,some (.ptr 2 0)),(6,some (nA (a.take (2 ^ i)))),(7,some (nA (a.drop (2 ^ i))))]) (hp:=[(2,some (.box [.lst 1 (ts.map nA)]))]) (.k (.k (.cons rfl (Sub.of (ag1 a (2 ^ i))) (.cons rfl (Sub.of (ae5 a (2 ^ i))) .nil)))) (.k .nil)) ?_;refine gc (aee ts m r ht hm hml i i _ _ e e oz oz n1 n1 ca.take ca.take oz) ?_;refine gc (aee ts m r ht hm hml i i _ _ e e oz oz n2 n2 ca.drop ca.drop oz) ?_;refine gc (afa qA a oz) ?_;refine ga (show _ = (i:Int) by rw [hal,ao6,abi oz]; omega) ?_;refine gi (akf (j:=i) oz) ?_;refine gc (aee ts m r ht hm hml i i _ _ _ _ oz oz s2.1 nd c2 cd oz) ?_;refine gc (ag6 _ (fun q hq=>c3.qs oz hq) (by have:=s3.1.le; omega)) ?_;refine gc (ae4 _ _ (fun q hq=>c1.qs oz hq) (fun q hq=>c3.minus.qs oz hq) (by have:=s1.1.le; omega) (by have:=s3.1.le; rw [ab4]; omega)) ?_;refine gD ?_;refine gE1 ?_;rfl
theorem aey (ts:LL) (m r:Nat) (ht:awt ts m r) (hm:m <= 5) (hml:m <= ts.length) (j:Nat):∀ (a:List Rat) (e:Nat), j <= m -> Nl j a -> Cb e a -> sB r j e < 4398046511104 ->
  FnC prog 158 [aa5 ts,nA a] (i64 (T.sgn (aae ts) j (dec j a))):=by
 induction j using Nat.strongRecOn
 rename_i j ih;intro a e hj ha ca hs;have hse:=auy r j e;have qa:∀ q ∈ a,Qs q:=fun q hq=>ca.qs oz hq
 obtain ⟨s,hsa⟩:∃ s,s = sh j (dec j a):=⟨_,rfl⟩
 have hsd:dec j s = dec j a:=by rw [hsa,aa4]
 have hsn:Nl j s:=by rw [hsa]; exact ahs j _
 have cs:Cb e s:=by rw [hsa]; exact ca.sh ha
 have hls:=hsn.len5 oz;rw [<- hsd];refine gF0 func158 ?_;refine gc (hsa ▸ acc a oz ha qa) ?_;refine gl ?_;refine gC (fun ht12=>?_) (fun ht12=>?_)
 ·have h1 : s = [] := List.length_eq_zero_iff.1 (by have := ht12; simp only [aaa, beq_iff_eq] at this; omega);refine gE1 ?_;rw [h1,ae7,T.sgn_zero]; rfl
 ·have h1 : s.length ≠ 0 := by have := ht12; simp only [aaa, beq_eq_false_iff_ne, ne_eq] at this; omega
  refine gl ?_;refine gC (fun ht15=>?_) (fun ht15=>?_)
  ·have h2 : s.length = 1 := by have := ht15; simp only [aaa, beq_iff_eq] at this; omega
   obtain ⟨q,rfl⟩:=List.length_eq_one_iff.1 h2;refine gi rfl ?_;refine gc (afd (rt q) (cs.qs oz (by simp:q ∈ [q])).ok) ?_;refine gE1 ?_;rw [aib,T.sgn_ofQ,agm]
  ·have h2 : s.length ≠ 1 := by have := ht15; simp only [aaa, beq_eq_false_iff_ne, ne_eq] at this; omega
   obtain ⟨i, hij, hsl⟩:∃ i, i + 1 <= j /\ s.length = 2 ^ (i + 1):=by
    rcases ah0 hsn with h | h | h
    ·exact absurd h h1
    ·exact absurd h h2
    ·exact h
   have hp2:=Nat.two_pow_pos i;have hpi:2 ^ i <= 32:=aax (b:=5) oz;have hps:2 ^ (i + 1) = 2 * 2 ^ i:=by rw [Nat.pow_succ]; omega
   have n1:Nl i (s.take (2 ^ i)):=.inr ⟨i,le_refl _,ac7 hsl⟩;have n2:Nl i (s.drop (2 ^ i)):=.inr ⟨i,le_refl _,adc hsl⟩;have nd:=ht.1 i oz;have cd:=ht.2.cb i;obtain ⟨nn,dn,cn⟩:=ald ht oz hsl cs;have b1:sB r i (4 * e + 3 * eB r i + r + 1) <= sB r j e:=at7 r e hij;have b2:sB r i e <= sB r i (4 * e + 3 * eB r i + r + 1):=aki r i oz;have b3:sB r i r <= sB r i (4 * e + 3 * eB r i + r + 1):=aki r i oz;have b4:=auy r i (4 * e + 3 * eB r i + r + 1);have k1:=ih i oz (s.take (2 ^ i)) e oz n1 cs.take oz;have k2:=ih i oz (s.drop (2 ^ i)) e oz n2 cs.drop oz;have k3:=ih i oz _ r oz nd cd oz;have k4:=ih i oz _ _ oz nn cn oz
   have hres:T.sgn (aae ts) j (dec j s) = T.sgn3 (T.sgn (aae ts) i (dec i (s.take (2 ^ i)))) (T.sgn (aae ts) i (dec i (s.drop (2 ^ i)))) (T.sgn (aae ts) i (dec i (ts.getD i []))) (T.sgn (aae ts) i (dec i (al5 ts i s))):=by
    rw [al1 _ oz hij,dn]; rfl
   have v1:=T.sgn_cases (aae ts) i (dec i (s.take (2 ^ i)));have v4:=T.sgn_cases (aae ts) i (dec i (al5 ts i s));refine gl ?_;refine gs (adg (.tmp rfl) (.const _) oz (show _ = ((2 ^ i:Nat):Int) by rw [ab3 oz,hsl,abw]) rfl) ?_;refine gs (aam (.tmp rfl) (.none _) (.some _ (.tmp rfl) oz) T46 rfl T29 rfl oz (by simp only [length_map]; omega) rfl) ?_;refine gc (by have h9:=k1; rw [<- ag1] at h9; exact h9) ?_;refine gs (aam (.tmp rfl) (.some _ (.tmp rfl) oz) (.none _) T46 rfl T29 rfl (by simp only [length_map]; omega) oz rfl) ?_;refine gc (by have h9:=k2; rw [<- ae5] at h9; exact h9) ?_;refine gD ?_;refine gc (afa qA s oz) ?_;refine ga (show _ = (i:Int) by rw [hsl,ao6,abi oz]; omega) ?_;refine gi (akf (j:=i) oz) ?_;refine gc k3 ?_;refine gD ?_;refine gC (fun ht42=>?_) (fun ht42=>?_)
   ·have e1 : T.sgn (aae ts) i (dec i (ts.getD i [])) = 0 := by simpa [aaa] using ht42
    refine gE1 ?_;rw [hres]; unfold T.sgn3; rw [if_pos e1]
   ·have e1 : ¬ T.sgn (aae ts) i (dec i (ts.getD i [])) = 0 := by simpa [aaa] using ht42
    refine gC (fun ht44=>?_) (fun ht44=>?_)
    ·have e2:T.sgn (aae ts) i (dec i (s.take (2 ^ i))) = T.sgn (aae ts) i (dec i (s.drop (2 ^ i))) \/ T.sgn (aae ts) i (dec i (s.drop (2 ^ i))) = 0:=a03 ht44;refine gE1 ?_;rw [hres]; unfold T.sgn3; rw [if_neg e1,if_pos e2]
    ·have e2:¬ (T.sgn (aae ts) i (dec i (s.take (2 ^ i))) = T.sgn (aae ts) i (dec i (s.drop (2 ^ i))) \/ T.sgn (aae ts) i (dec i (s.drop (2 ^ i))) = 0):=avj ht44;refine gC (fun ht53=>?_) (fun ht53=>?_)
     ·have e3 : T.sgn (aae ts) i (dec i (s.take (2 ^ i))) = 0 := by simpa [aaa] using ht53
      refine gE1 ?_;rw [hres]; unfold T.sgn3; rw [if_neg e1,if_neg e2,if_pos e3]
     ·have e3 : ¬ T.sgn (aae ts) i (dec i (s.take (2 ^ i))) = 0 := by simpa [aaa] using ht53
      refine gc (akr ts m r ht hm hml i s e oz hsl cs oz) ?_;refine gc k4 ?_;refine ga (aq7 v1 v4) ?_;refine gD ?_;refine gE1 ?_;rw [hres]; unfold T.sgn3; rw [if_neg e1,if_neg e2,if_neg e3]; rfl
end Go.Lw
namespace Go.Lw
open Go.Proofs
theorem afe (rs:List (List Rt)) (r:Nat) (h:TR rs r):FnC prog 70 [ahu rs] (ai2 (aer rs)):=by
 have hll:=h.ll;have hr:=h.le;refine gF0 func70 ?_;refine gl ?_;refine gC (fun ht10=>?_) (fun ht10=>?_)
 ·have h5 : 5 < rs.length := by have := ht10; simp only [aaa, decide_eq_true_eq] at this; omega
  refine gE1 ?_;rw [a29 h5]; rfl
 ·have h5 : rs.length <= 5 := by have := ht10; simp only [aaa, decide_eq_false_iff_not] at this; omega
  refine gl ?_;refine gL1 [1,13,14] [1] (fun (k:Nat)=>[(15,some (i64 k))]) (fun _=>[]) (fun k=>k <= rs.length /\ ∀ j,j < k -> a1y rs j) (fun k=>rs.length - k) 0 ⟨zero_le _,fun j hj=>by omega⟩ ?_;rintro k ⟨hk,hj⟩ K1 hK1;refine gC (fun ht16=>?_) (fun ht16=>?_)
  ·have hin : k < rs.length := by simpa [aaa] using ht16
   obtain ⟨d,hd⟩:=ab5 hin;have hdm:=mem_of_getElem? hd;have hdl:=h.len d hdm;refine gi (aag hd) ?_;refine gl ?_;refine gs (ae3 (.const _) (.tmp rfl) oz (agj oz) rfl) ?_;refine gC (fun ht24=>?_) (fun ht24=>?_)
   ·have h1 : d.length ≠ 2 ^ k := by have := ht24; simp only [aaa, bne_iff_ne, ne_eq] at this; omega
    refine gE1 ?_;rw [a28 h5 hd hj h1]; rfl
   ·have h1 : d.length = 2 ^ k := by have := ht24; simp only [aaa, bne_eq_false_iff_eq] at this; omega
    have htl:(rs.take k).length = k:=by simp; omega
    have hnu:=alp (rs.take k) d (h.ok d hdm) hdl oz;rw [htl] at hnu;refine gs (aam (.tmp rfl) (.none _) (.some _ (.tmp rfl) oz) T34 rfl T46 rfl oz (by simp only [length_map]; omega) rfl) ?_ (9,0);refine gW (Wk.of (sl:=[(1,some (.ptr 1 0)),(3,some (i64 k)),(4,some (nR d)),(5,some (.ptr 5 0)),(13,some (.lst 1 (rs.map nR))),(14,some (i64 rs.length)),(15,some (i64 k))]) (hp:=[(1,some (.box [.lst 1 (rs.map nR)])),(5,some (.box [.lst 1 ((rs.take k).map nR)]))]) aa6 (.k (.cons rfl (BlkSub.boxL (.cons (.of (bb4 nR rs k)) .nil) rfl) .nil))) ?_;refine gc hnu ?_;refine gC (fun ht35=>?_) (fun ht35=>?_)
    ·have h2:=aeq ht35;refine gE1 ?_;rw [a23 h5 hd hj h1 h2]
    ·have h2:=ad1 ht35;have hts:=ax9 (ts:=llq rs) (fun j hjk=>(hj j hjk).nl) h.rb;have hq:=awo h2 (h.ok d hdm);have hcb:Cb r (lq d):=by have:=h.rb.cb k; rw [ank,getD_eq_getElem?_getD,hd] at this; exact this
     have hsg:FnC prog 158 [ahu (rs.take k), nR d] (i64 (T.sgn (aae (llq rs)) k (dec k (lq d)))):=by
      have h9:=aey ((llq rs).take k) k r hts oz (by simp; omega) k (lq d) r (le_refl _) hq.2 hcb (arh (le_refl k) (by have:=h.three; omega) hr (by have:=apw k; omega));rw [T.sgn_congr k (fun j hjk=>ahb hjk)] at h9;rw [bbk h.ok oz hj,hq.1,agt];rw [<- hq.1]; exact h9
     refine gc hsg ?_;refine gC (fun ht40=>?_) (fun ht40=>?_)
     ·have h3 : T.sgn (aae (llq rs)) k (dec k (lq d)) < 0 := by simpa [aaa] using ht40
      refine gE1 ?_;rw [a3x h5 hd hj h1 h2 h3]; rfl
     ·have h3 : ¬ T.sgn (aae (llq rs)) k (dec k (lq d)) < 0 := by simpa [aaa] using ht40
      refine ga aat ?_;exact gK1 hK1 (k + 1) ⟨hin,fun j hjk=>by rcases lt_or_ge j k with h9 | h9; exact hj j h9; (have:j = k:=by omega); subst this; exact a6m hd h1 h2 h3⟩
  ·have hin : k = rs.length := by have : rs.length <= k := (by simpa [aaa] using ht16); omega
   subst hin;refine gE1 ?_;rw [a2v h5 hj]; rfl
theorem ac9 (rs:List (List Rt)) (r:Nat) (h:TR rs r) (xs:List (List Rt)) (hx:∀ a ∈ xs, (∀ x ∈ a, x.ok) /\ a.length <= 281474976710656) (hl:xs.length <= 281474976710656):FnC prog 163 [ahu rs, .lst 1 (xs.map nR)] (ai2 (abh rs xs)):=by
 refine gF0 func163 ?_;refine gc (afe rs r h) ?_;refine gC (fun ht12=>?_) (fun ht12=>?_)
 ·have h1:=aeq ht12;refine gE1 ?_;rw [awl h1]
 ·have h1:=ad1 ht12;refine gl ?_;refine gL1 [2,14,15] [2] (fun (i:Nat)=>[(16,some (i64 i))]) (fun _=>[]) (fun i=>i <= xs.length /\ ∀ x ∈ xs.take i,aic rs.length x = 0) (fun i=>xs.length - i) 0 ⟨zero_le _,fun x hx=>by simp at hx⟩ ?_;rintro i ⟨hi,hj⟩ K1 hK1;refine gC (fun ht17=>?_) (fun ht17=>?_)
  ·have hin : i < xs.length := by simpa [aaa] using ht17
   obtain ⟨a,ha⟩:=ab5 hin;have hok:=hx a (mem_of_getElem? ha);refine gi (aag ha) ?_;refine gc (alp rs a hok.1 hok.2 h.ll) ?_;refine gC (fun ht24=>?_) (fun ht24=>?_)
   ·have h2:=aeq ht24;refine gE1 ?_;rw [ava h1 ha hj h2]
   ·have h2:=ad1 ht24;refine ga aat ?_;exact gK1 hK1 (i + 1) ⟨hin,fun x hx=>by rw [aaj ha] at hx; rcases List.mem_append.1 hx with h9 | h9; exact hj x h9; (rw [List.mem_singleton.1 h9]; exact h2)⟩
  ·have hin : i = xs.length := by have : xs.length <= i := (by simpa [aaa] using ht17); omega
   subst hin;rw [take_length] at hj;refine gE1 ?_;rw [aog h1 hj]; rfl
theorem ar9 (rs:List (List Rt)) (r:Nat) (h:TR rs r) (a:List Rt) (e:Nat) (ha:NR a e) (he:e <= lm rs.length) :
  FnC prog 73 [ahu rs,nR a] (.tup [nA (if abh rs [a] = 0 then sh rs.length (T.neg rs.length (dec rs.length (lq a))) else []),ai2 (abh rs [a])]):=by
 have hlm:=ajn rs.length;refine gF0 func73 ?_;refine gc (ac9 rs r h [a] (fun x hx=>by rw [List.mem_singleton.1 hx]; exact ⟨ha.ok,ha.len⟩) (by simp)) ?_;refine gC (fun ht12=>?_) (fun ht12=>?_) (st2:=(77777,0))
 ·have h1:=aeq ht12;refine gR ?_;exact abc (by rw [if_neg h1]; exact Sub.tup (.cons (.nil _ _ _) (.cons (.refl _) .nil)))
 ·have h1:=ad1 ht12;obtain ⟨h2,h3⟩:=ag2 h1;obtain ⟨tw,_⟩:=abr h h2;obtain ⟨e1,na⟩:=ha.num (h3 a (by simp));have h5:rs.length <= 5:=by have:=tw.five; rwa [length_map] at this
  have hl:=na.len5 h5;have qa:∀ q ∈ lq a,Qs q:=fun q hq=>ha.cb.qs oz hq
  have qm:∀ q ∈ ab1 (lq a),Qs q:=fun q hq=>ha.cb.minus.qs oz hq
  have nm:=ajm na;refine gW (Wk.of (sl:=[(1,some (nA (lq a))),(2,some (.ptr 2 0)),(6,some (ai2 (abh rs [a])))]) (hp:=[(2,some (.box [.lst 1 (rs.map nR)]))]) (.cons rfl (Sub.of e1) (.k (.k .nil))) (.k .nil)) ?_;refine gc (ag6 _ qa oz) ?_;refine gc (acc _ h5 nm qm) ?_;refine gE2 ?_;rw [if_pos h1,h1,aeo]; rfl
theorem a0j (rs:List (List Rt)) (r:Nat) (h:TR rs r) (a b:List Rt) (e f:Nat) (ha:NR a e) (hb:NR b f) (he:e + f <= lm rs.length) :
  FnC prog 274 [ahu rs,nR a,nR b] (.tup [nA (if abh rs [a,b] = 0 then sh rs.length (T.add rs.length (dec rs.length (lq a)) (dec rs.length (lq b))) else []),ai2 (abh rs [a,b])]):=by
 have hlm:=ajn rs.length;refine gF0 func274 ?_;refine gc (ac9 rs r h [a,b] (am3 ha hb) (by simp)) ?_;refine gC (fun ht15=>?_) (fun ht15=>?_) (st2:=(77777,0))
 ·have h1:=aeq ht15;refine gR ?_;exact abc (by rw [if_neg h1]; exact Sub.tup (.cons (.nil _ _ _) (.cons (.refl _) .nil)))
 ·have h1:=ad1 ht15;obtain ⟨h2,h3⟩:=ag2 h1;obtain ⟨tw,e0⟩:=abr h h2;obtain ⟨e1,na⟩:=ha.num (h3 a (by simp));obtain ⟨e2,nb⟩:=hb.num (h3 b (by simp));have h5:rs.length <= 5:=by have:=tw.five; rwa [length_map] at this
  have hla:=na.len5 h5;have hlb:=nb.len5 h5;have qa:∀ q ∈ lq a,Qs q:=fun q hq=>ha.cb.qs oz hq
  have qb:∀ q ∈ lq b,Qs q:=fun q hq=>hb.cb.qs oz hq
  have qp:∀ q ∈ acx (lq a) (lq b),Qs q:=fun q hq=>(ha.cb.plus hb.cb).qs oz hq
  have np:=akk na nb;refine gW (Wk.of (sl:=[(1,some (nA (lq a))),(2,some (nA (lq b))),(3,some (.ptr 3 0)),(8,some (ai2 (abh rs [a,b])))]) (hp:=[(3,some (.box [.lst 1 (rs.map nR)]))]) (.cons rfl (Sub.of e1) (.cons rfl (Sub.of e2) (.k (.k .nil)))) (.k .nil)) ?_;refine gc (ae4 _ _ qa qb oz oz) ?_;refine gc (acc _ h5 np qp) ?_;refine gE2 ?_;rw [if_pos h1,h1,ac6]; rfl
theorem a0r (rs:List (List Rt)) (r:Nat) (h:TR rs r) (a b:List Rt) (e f:Nat) (ha:NR a e) (hb:NR b f) (he:e + f <= lm rs.length) :
  FnC prog 147 [ahu rs,nR a,nR b] (.tup [nA (if abh rs [a,b] = 0 then sh rs.length (T.add rs.length (dec rs.length (lq a)) (T.neg rs.length (dec rs.length (lq b)))) else []),ai2 (abh rs [a,b])]):=by
 have hlm:=ajn rs.length;refine gF0 func147 ?_;refine gc (ac9 rs r h [a,b] (am3 ha hb) (by simp)) ?_;refine gC (fun ht15=>?_) (fun ht15=>?_) (st2:=(77777,0))
 ·have h1:=aeq ht15;refine gR ?_;exact abc (by rw [if_neg h1]; exact Sub.tup (.cons (.nil _ _ _) (.cons (.refl _) .nil)))
 ·have h1:=ad1 ht15;obtain ⟨h2,h3⟩:=ag2 h1;obtain ⟨tw,e0⟩:=abr h h2;obtain ⟨e1,na⟩:=ha.num (h3 a (by simp));obtain ⟨e2,nb⟩:=hb.num (h3 b (by simp));have h5:rs.length <= 5:=by have:=tw.five; rwa [length_map] at this
  have hla:=na.len5 h5;have hlb:=nb.len5 h5;have qa:∀ q ∈ lq a,Qs q:=fun q hq=>ha.cb.qs oz hq
  have qb:∀ q ∈ lq b,Qs q:=fun q hq=>hb.cb.qs oz hq
  have qm:∀ q ∈ ab1 (lq b),Qs q:=fun q hq=>hb.cb.minus.qs oz hq
  have qp:∀ q ∈ acx (lq a) (ab1 (lq b)),Qs q:=fun q hq=>(ha.cb.plus hb.cb.minus).qs oz hq
  have np:=akk na (ajm nb);refine gW (Wk.of (sl:=[(1,some (nA (lq a))),(2,some (nA (lq b))),(3,some (.ptr 3 0)),(8,some (ai2 (abh rs [a,b])))]) (hp:=[(3,some (.box [.lst 1 (rs.map nR)]))]) (.cons rfl (Sub.of e1) (.cons rfl (Sub.of e2) (.k (.k .nil)))) (.k .nil)) ?_;refine gc (ag6 _ qb oz) ?_;refine gc (ae4 _ _ qa qm oz (by rw [ab4]; omega)) ?_;refine gc (acc _ h5 np qp) ?_;refine gE2 ?_;rw [if_pos h1,h1,ac6,aeo]; rfl
theorem a1c (rs:List (List Rt)) (r:Nat) (h:TR rs r) (a b:List Rt) (e f:Nat) (ha:NR a e) (hb:NR b f) (he:e + f <= lm rs.length) :
  FnC prog 148 [ahu rs,nR a,nR b] (.tup [nA (if abh rs [a,b] = 0 then sh rs.length (T.mul (aae (llq rs)) rs.length (dec rs.length (lq a)) (dec rs.length (lq b))) else []),ai2 (abh rs [a,b])]):=by
 have hr:=h.le;have hlm:=ajn rs.length;refine gF0 func148 ?_;refine gc (ac9 rs r h [a,b] (am3 ha hb) (by simp)) ?_;refine gC (fun ht15=>?_) (fun ht15=>?_) (st2:=(77777,0))
 ·have h1:=aeq ht15;refine gR ?_;exact abc (by rw [if_neg h1]; exact Sub.tup (.cons (.nil _ _ _) (.cons (.refl _) .nil)))
 ·have h1:=ad1 ht15;obtain ⟨h2,h3⟩:=ag2 h1;obtain ⟨tw,e0⟩:=abr h h2;obtain ⟨e1,na⟩:=ha.num (h3 a (by simp));obtain ⟨e2,nb⟩:=hb.num (h3 b (by simp));have hlen:(llq rs).length = rs.length:=length_map _;have h5:rs.length <= 5:=by have:=tw.five; omega
  have hla:=na.len5 h5;have hlb:=nb.len5 h5;have htw:=tw.ok;rw [hlen] at htw;have hE:=a7m r h5;have np:=adt (llq rs) rs.length htw.1 rs.length rs.length _ _ (le_refl _) (le_refl _) na nb;have cp:=Cb.mul htw (k:=rs.length) (le_refl rs.length) (le_refl _) na nb ha.cb hb.cb;have hti:=aee (llq rs) rs.length r htw h5 oz rs.length rs.length _ _ e f (le_refl _) (le_refl _) na nb ha.cb hb.cb oz;refine gW (Wk.of (sl:=[(1,some (nA (lq a))),(2,some (nA (lq b))),(3,some (.ptr 3 0)),(8,some (ai2 (abh rs [a,b])))]) (hp:=[(3,some (.box [.lst 1 ((llq rs).map nA)]))]) (.cons rfl (Sub.of e1) (.cons rfl (Sub.of e2) (.k (.k .nil)))) (.cons rfl (BlkSub.boxL (.cons (.of (aff e0)) .nil) rfl) .nil)) ?_;refine gc hti ?_;refine gc (acc _ h5 np.1 (fun q hq=>cp.qs oz hq)) ?_;refine gE2 ?_;rw [if_pos h1,h1,np.2]; rfl
theorem aw4 (rs:List (List Rt)) (r:Nat) (h:TR rs r) (a:List Rt) (e:Nat) (ha:NR a e) (he:e <= lm rs.length) :
  FnC prog 192 [ahu rs,nR a] (.tup [i64 (if abh rs [a] = 0 then T.sgn (aae (llq rs)) rs.length (dec rs.length (lq a)) else 0),ai2 (abh rs [a])]):=by
 have hr:=h.le;have hlm:=ajn rs.length;refine gF0 func192 ?_;refine gc (ac9 rs r h [a] (fun x hx=>by rw [List.mem_singleton.1 hx]; exact ⟨ha.ok,ha.len⟩) (by simp)) ?_;refine gC (fun ht12=>?_) (fun ht12=>?_) (st2:=(77777,0))
 ·have h1:=aeq ht12;refine gE2 ?_;rw [if_neg h1]; rfl
 ·have h1:=ad1 ht12;obtain ⟨h2,h3⟩:=ag2 h1;obtain ⟨tw,e0⟩:=abr h h2;obtain ⟨e1,na⟩:=ha.num (h3 a (by simp));have hlen:(llq rs).length = rs.length:=length_map _;have h5:rs.length <= 5:=by have:=tw.five; omega
  have htw:=tw.ok;rw [hlen] at htw;have hsg:=aey (llq rs) rs.length r htw h5 oz rs.length _ _ (le_refl _) na ha.cb (arh (le_refl rs.length) (by have:=tw.three; omega) hr oz);refine gW (Wk.of (sl:=[(1,some (nA (lq a))),(2,some (.ptr 2 0)),(6,some (ai2 (abh rs [a])))]) (hp:=[(2,some (.box [.lst 1 ((llq rs).map nA)]))]) (.cons rfl (Sub.of e1) (.k (.k .nil))) (.cons rfl (BlkSub.boxL (.cons (.of (aff e0)) .nil) rfl) .nil)) ?_;refine gc hsg ?_;refine gE2 ?_;rw [if_pos h1,h1]; rfl
theorem a50 (x:Rt) (hx:x.ok) (hs:Qs x.q):FnC prog 134 [x.av] (nA (sh 0 (x.q:Rat))):=by
 have hadd:=adq x (rt 0) hx Qs.zero.ok;rw [bck] at hadd;refine gF0 func134 ?_;refine gc (Con.subA (.cons (.refl _) (.cons ai1 .nil)) hadd) ?_;refine gc (acc (n:=0) [x.q] oz (.inr ⟨0,le_refl _,rfl⟩) (fun q hq=>by rw [List.mem_singleton.1 hq]; exact hs)) ?_;refine gE1 ?_;rfl
end Go.Lw
namespace Go.Lw
open Go.Proofs
theorem ahm (n:Nat) (hn:n <= 281474976710656):FnC prog 238 [i64 n] (.tup [i64 (pwk n), bl (pwb n)]):=by
 refine gF0 func238 ?_;refine gL1 [0] [] (fun (k:Nat)=>[(5,some (i64 k))]) (fun _=>[]) (fun k=>k <= 6 /\ ∀ j,j < k -> n ≠ 2 ^ j) (fun k=>6 - k) 0 ⟨by omega,fun j h=>by omega⟩ ?_;rintro k ⟨hk,hj⟩ K1 hK1;refine gC (fun ht6=>?_) (fun ht6=>?_)
 ·have h1 : k < 6 := by have := ht6; simp only [aaa, decide_eq_true_eq] at this; omega
  refine gs (ae3 (.const _) (.tmp rfl) oz (agj oz) rfl) ?_;refine gC (fun ht11=>?_) (fun ht11=>?_)
  ·have h2 : n = 2 ^ k := by have := ht11; simp only [aaa, beq_iff_eq] at this; omega
   refine gE2 ?_;rw [h2,(awk oz).1,(awk oz).2]; rfl
  ·have h2 : n ≠ 2 ^ k := by have := ht11; simp only [aaa, beq_eq_false_iff_ne, ne_eq] at this; omega
   refine ga (aa7 oz) ?_;exact gK1 hK1 (k + 1) ⟨by omega,fun j h=>by rcases lt_or_ge j k with h3 | h3; exact hj j h3; (have:j = k:=by omega); subst this; exact h2⟩
 ·have h1 : k = 6 := by have := ht6; simp only [aaa, decide_eq_false_iff_not] at this; omega
  subst h1;refine gE2 ?_;rw [(a9z hj).1,(a9z hj).2]; rfl
theorem ape (m:Nat) (hm:m <= 5) (a:List Rt) (ha:∀ r ∈ a, r.ok) (hl:a.length <= 281474976710656):FnC prog 219 [i64 m, nR a] (i64 (aic m a)):=by
 refine gF0 func219 ?_;refine gl ?_;refine gc (ahm a.length hl) ?_;refine gl ?_;refine gC (fun ht26=>?_) (fun ht26=>?_)
 ·have h1:a ≠ [] /\ (lvl a.length < 0 \/ (m:Int) < lvl a.length):=(a3l hm a).2 (bkp ht26);refine gE1 ?_;unfold aic; rw [if_pos h1]; rfl
 ·have hn:¬ (a ≠ [] /\ (lvl a.length < 0 \/ (m:Int) < lvl a.length)):=fun h=>bo1 ht26 ((a3l hm a).1 h)
  refine gl ?_;refine gL1 [27,28] [] (fun (i:Nat)=>[(29,some (i64 i))]) (fun _=>[]) (fun i=>i <= a.length /\ (a.take i).all Rt.valid = true) (fun i=>a.length - i) 0 ⟨zero_le _,by simp⟩ ?_;rintro i ⟨hi,hv⟩ K1 hK1;refine gC (fun ht30=>?_) (fun ht30=>?_)
  ·have hin : i < a.length := by simpa [aaa] using ht30
   obtain ⟨r,hr⟩:=ab5 hin;have hrok:=ha r (mem_of_getElem? hr);refine gi (aag hr) ?_;refine gc (ahh r hrok) ?_;refine gC (fun ht35=>?_) (fun ht35=>?_)
   ·have hrv : r.valid = false := by simpa using ht35
    refine gE1 ?_;unfold aic;rw [if_neg hn,if_neg]
    ·rfl
    ·rw [all_eq_true];intro h;rw [h r (mem_of_getElem? hr)] at hrv; cases hrv
   ·have hrv : r.valid = true := by simpa using ht35
    refine ga aat ?_;exact gK1 hK1 (i + 1) ⟨by omega,by rw [aaj hr,all_append,hv]; simp [hrv]⟩
  ·have hin : i = a.length := by have : a.length <= i := (by simpa [aaa] using ht30); omega
   subst hin;rw [take_length] at hv;refine gE1 ?_;unfold aic; rw [if_neg hn,if_pos hv]; rfl
theorem aqf (a:List Rat) (hl:a.length <= 281474976710656):FnC prog 294 [nA a] (bl (abz a)):=by
 refine gF0 func294 ?_;refine gl ?_;refine gL1 [5,6] [] (fun (i:Nat)=>[(7,some (i64 i))]) (fun _=>[]) (fun i=>i <= a.length /\ abz (a.take i) = true) (fun i=>a.length - i) 0 ⟨zero_le _,by simp [abz]⟩ ?_;rintro i ⟨hi,hv⟩ K1 hK1;refine gC (fun ht8=>?_) (fun ht8=>?_)
 ·have hin : i < a.length := by simpa [aaa] using ht8
  obtain ⟨q,hq⟩:=ab5 hin;refine gi (aag hq) ?_;refine glG ?_;refine glG ?_;refine gC (fun ht24=>?_) (fun ht24=>?_)
  ·have h0:q ≠ 0:=beg ht24;refine gE1 ?_
   have:abz a = false:=by
    rw [Bool.eq_false_iff];intro h;exact h0 (by simpa using List.all_eq_true.1 h q (mem_of_getElem? hq))
   rw [this]; rfl
  ·have h0:q = 0:=a7c ht24;refine ga aat ?_;exact gK1 hK1 (i + 1) ⟨by omega,by rw [aaj hq]; simp only [abz,all_append,and_eq_true]; exact ⟨hv,by simp [h0]⟩⟩
 ·have hin : i = a.length := by have : a.length <= i := (by simpa [aaa] using ht8); omega
  subst hin;rw [take_length] at hv;refine gE1 ?_;rw [hv]; rfl
theorem acu {n:Nat} (a:List Rat) (hn:n <= 5) (ha:Nl n a):FnC prog 237 [nA a] (nA (sh n (dec n a))):=by
 have hl:=ha.len5 hn;rw [<- aj9 ha hn];refine gF0 func237 ?_;refine gl ?_;refine gc (ahm a.length oz) ?_;refine gC (fun ht13=>?_) (fun ht13=>?_)
 ·have h0:a = []:=by
   rcases ha with h | ⟨j,hj,h⟩
   ·exact h
   ·have h9:=ht13;rw [h,(awk oz).2] at h9; cases h9
  refine gs (acy T46 rfl T29 rfl rfl rfl) ?_;refine gs (aep (.tmp rfl) rfl rfl (.tmp rfl) T46 rfl T29 rfl rfl (by simp [h0]) rfl rfl) ?_;refine gE1 ?_;subst h0; rfl
 ·refine gl ?_;refine gL1 [0] [] (fun (m:Nat)=>[(5,some (i64 m))]) (fun _=>[]) (fun m=>bfi a m) (fun m=>m) a.length (bap (ha.mono hn)) ?_;rintro m hm K1 hK1;refine gs (acj rfl rfl rfl (fun h=>adg (.opt rfl (o1 h)) (.const _) oz (ab3 (by have:=hm.le; omega)) rfl)) ?_;refine gs (acj rfl rfl rfl (fun h=>aam (.opt rfl (o1 h)) (.some _ (.opt rfl (o1 h)) oz) (.some _ (.opt rfl (o1 h)) oz) T46 rfl T29 rfl oz (by have:=hm.le; simp; omega) rfl)) ?_;refine gcG (fun _=>(by have h9:=aqf ((a.drop (m / 2)).take (m - m / 2)) (by simp; omega); rw [<- ayy] at h9; exact h9)) ?_;refine gC (fun ht28=>?_) (fun ht28=>?_)
  ·have h1:1 < m /\ abz ((a.drop (m / 2)).take (m - m / 2)) = true:=by
    have h9:=ht28
    by_cases h:(m:Int) > 1
    ·simp only [aaa,decide_eq_true h,cond_true] at h9; exact ⟨by omega,h9⟩
    ·simp only [aaa,decide_eq_false h,cond_false] at h9; cases h9
   refine gs (adg (.tmp rfl) (.const _) oz (ab3 (by have:=hm.le; omega)) rfl) ?_;exact gK1 hK1 (m / 2) (a84 hm h1.1 h1.2)
  ·have h1:1 < m -> abz ((a.drop (m / 2)).take (m - m / 2)) = false:=by
    intro h;have h9:=ht28;simp only [aaa,decide_eq_true (show (m:Int) > 1 by omega),cond_true] at h9;exact h9
   refine gs (acj rfl rfl rfl (fun h=>aam (.opt rfl (o1 h)) (.none _) (.some _ (.const _) oz) T46 rfl T29 rfl oz (by have h8:(m:Int) = 1:=(by simpa [aaa] using h); have:=hm.le; simp only [length_map]; omega) rfl)) ?_;refine gcG (fun _=>(by have h9:=aqf ((a.drop 0).take 1) (by simp; omega); rw [<- ayy] at h9; exact h9)) ?_;refine gC (fun ht37=>?_) (fun ht37=>?_)
   ·have h2:m = 1 /\ abz (a.take 1) = true:=by
     have h9:=ht37
     by_cases h:m = 1
     ·rw [h] at h9; exact ⟨h,h9⟩
     ·rw [show aaa .eql (m:Int) 1 = false by simp [aaa]; omega] at h9; cases h9
    obtain ⟨rfl,h3⟩:=h2;refine gR ?_;exact adv (by rw [a7s hm h3]; exact Sub.nil _ _ _)
   ·have h2:m = 1 -> abz (a.take 1) = false:=by
     intro h;have h9:=ht37;rw [h] at h9; exact h9
    have h3:=a6u hm h1 h2;refine gs (acy T46 rfl T29 rfl rfl rfl) ?_;refine gs (aam (.tmp rfl) (.none _) (.some _ (.tmp rfl) oz) T46 rfl T29 rfl oz (by have:=hm.le; simp; omega) rfl) ?_;refine gs (aep (.tmp rfl) rfl rfl (.tmp rfl) T46 rfl T29 rfl rfl (by simp only [length_take,List.length_drop,length_map]; omega) rfl rfl) ?_;refine gE1 ?_;rw [h3];simp [nA,map_take]
theorem aml (d:Nat) (hd:Nat.blt d 1000 = true) (a:List Rat) (n:Nat) (hl:a.length <= n) (hn:n <= 1099511627776) :
  Con prog 216 [nA a,i64 n] [] (.ms d 3 0 n) [(d,some (.row 3 ((aay a n).map qA)))]:=by
 refine gF func216 (fun k z h=>by cases h) ?_;refine gs (acy T46 rfl T29 rfl rfl rfl) ?_;refine gs (aa0 (.tmp rfl) rfl rfl (.tmp rfl) T46 rfl T29 rfl rfl (by simp only [length_map]; omega) rfl rfl) ?_;refine gW (Wk.of (sl:=[(1,some (i64 n)),(5,some (.ms 8 3 0 a.length))]) (hp:=[(8,some (.row 3 ((aay a a.length).map qA)))]) (.k (.cons rfl (Sub.of (by simp)) .nil)) (.cons rfl (BlkSub.of (by simp [aay])) .nil)) ?_ (99999,0);refine gW (Wk.rekey (k:=8) (d:=900) rfl rfl) ?_;refine gL1 [1] [] (fun (i:Nat)=>[(5,some (.ms 900 3 0 i))]) (fun i=>[(900,some (.row 3 ((aay a i).map qA)))]) (fun i=>a.length <= i /\ i <= n) (fun i=>n - i) a.length ⟨le_refl _,hl⟩ ?_;rintro i ⟨hi,hin⟩ K1 hK1;refine gC (fun ht12=>?_) (fun ht12=>?_)
 ·have h1 : i < n := by have := ht12; simp only [aaa, decide_eq_true_eq] at this; omega
  refine gs (aa0 (.tmp rfl) rfl (by rw [length_map,abm hi]) (.tmp rfl) T46 rfl T29 rfl rfl (by simp; omega) rfl rfl) ?_;exact gK1 hK1 (i + 1) ⟨by omega,h1⟩ (hw:=(Wk.of (sl:=[(1,some (i64 n)),(5,some (.ms 16 3 0 (i + 1)))]) (hp:=[(16,some (.row 3 ((aay a (i + 1)).map qA)))]) aa6 (.cons rfl (bdx a i hi) .nil)).trans <| (Wk.rekey (k:=16) (d:=900) rfl rfl).trans <| Wk.o)
 ·have h1 : i = n := by have := ht12; simp only [aaa, decide_eq_false_iff_not] at this; omega
  subst h1;refine gR ?_;exact Fin.own1 rfl hd rfl
theorem agb (a:List Rat) (n:Nat) (hl:a.length <= n) (hn:n <= 1099511627776):FnC prog 216 [nA a, i64 n] (nA (aay a n)):=by
 have h:=Con.freeze (by rw [length_map,abm hl]; omega) (aml 0 rfl a n hl hn);rw [drop_zero,take_of_length_le (by rw [length_map,abm hl]; exact le_refl _)] at h;exact h
theorem aft (a b:List Rat) (ha:∀ q ∈ a, Qs q) (hb:∀ q ∈ b, Qs q) (la:a.length <= 1099511627776) (lb:b.length <= 1099511627776):FnC prog 153 [nA a, nA b] (nA (acx a b)):=by
 obtain ⟨n,hn⟩:∃ n,n = max a.length b.length:=⟨_,rfl⟩
 have hwa:=abm (show a.length <= n by omega);have hwb:=abm (show b.length <= n by omega);have hp:=abp (a:=a) (b:=b);rw [<- hn] at hp;have qa:∀ q ∈ aay a n,Qs q:=fun q hq=>by rcases List.mem_append.1 hq with h | h; exact ha q h; (rw [(List.mem_replicate.1 h).2]; exact Qs.zero)
 have qb:∀ q ∈ aay b n,Qs q:=fun q hq=>by rcases List.mem_append.1 hq with h | h; exact hb q h; (rw [(List.mem_replicate.1 h).2]; exact Qs.zero)
 refine gF0 func153 ?_;refine gl ?_;refine gl ?_;refine gs (a5v (.tmp rfl) (.tmp rfl) rfl) ?_ (2,0);refine gW (Wk.of (sl:=[(0,some (nA a)),(1,some (nA b)),(5,some (i64 n))]) (hp:=[]) (.k (.k (.cons rfl (Sub.int oz) .nil))) .nil) ?_;refine go ?_;refine gt (aab (aml 900 rfl a n oz oz) (ev2 rfl rfl) hHa rfl rfl) ?_;refine gc (agb b n oz oz) ?_;refine gL1 [1,19] [] (fun (i:Nat)=>[(0,some (.ms 900 3 0 n)),(20,some (i64 i))]) (fun i=>[(900,some (.row 3 (((acx a b).take i ++ (aay a n).drop i).map qA)))]) (fun i=>i <= n) (fun i=>n - i) 0 (zero_le _) ?_;rintro i hi K1 hK1;refine gC (fun ht21=>?_) (fun ht21=>?_) (st2:=(8,0))
 ·have hin : i < n := by simpa [aaa] using ht21
  have hmx:=a0p (p:=acx a b) (w:=aay a n) (i:=i) oz oz;have hqa:=(qa _ (am5 (i:=i) oz)).ok;have hqb:=(qb _ (am5 (i:=i) oz)).ok;refine gs (aas (n:=i) (.tmp rfl) (.tmp rfl) T46 rfl T29 rfl oz oz rfl) ?_;refine gs (aaw (.tmp rfl) rfl (aag hmx) T29 rfl rfl rfl) ?_;refine gi (aag (getD_some (i:=i) (l:=aay b n) oz)) ?_;refine gc (ann (rt ((aay a n).getD i 0)) (rt ((aay b n).getD i 0)) hqa hqb) ?_;refine gs (aas (n:=i) (.tmp rfl) (.tmp rfl) T46 rfl T29 rfl oz oz rfl) ?_;refine gs (abb (.tmp rfl) rfl (aag hmx) rfl (.tmp rfl) rfl rfl T29 rfl rfl) ?_;refine gD ?_ (7,0);refine gW (Wk.of (sl:=[(0,some (.ms 900 3 0 n)),(1,some (nA (aay b n))),(19,some (i64 n)),(20,some (i64 i))]) (hp:=[(900,some (.row 3 (((acx a b).take (i + 1) ++ (aay a n).drop (i + 1)).map qA)))]) aa6 (.cons rfl (BlkSub.of (by rw [au7 oz oz (by rw [a2p,<- hn,agm,agm])])) .nil)) ?_;refine ga aat ?_;exact gK1 hK1 (i + 1) hin
 ·have hin : i = n := by have : n <= i := (by simpa [aaa] using ht21); omega
  refine gW ((Wk.freeze (k:=900) rfl).trans <| Wk.of (sl:=[(0,some (nA (acx a b)))]) (hp:=[]) (.cons rfl (Sub.of (by rw [abq (by simp; omega),hin,List.drop_of_length_le oz,take_of_length_le oz,List.append_nil]; rfl)) .nil) .nil) ?_;refine gE1 ?_;rfl
theorem alb (a:List Rat) (ha:∀ q ∈ a, Qs q) (hl:a.length <= 1099511627776):FnC prog 154 [nA a] (nA (ab1 a)):=by
 refine gF0 func154 ?_;refine gl ?_;refine gW (Wk.virt 900 3 rfl) ?_;refine gL1 [6,7] [] (fun (i:Nat)=>[(3,some (.ms 900 3 0 i)),(8,some (i64 i))]) (fun i=>[(900,some (.row 3 ((ab1 (a.take i)).map qA)))]) (fun i=>i <= a.length) (fun i=>a.length - i) 0 (zero_le _) ?_;rintro i hi K1 hK1;refine gC (fun ht9=>?_) (fun ht9=>?_) (st2:=(7,0))
 ·have hin : i < a.length := by simpa [aaa] using ht9
  obtain ⟨q,hq⟩:=ab5 hin;have hqs:=(ha q (mem_of_getElem? hq)).ok;refine gi (aag hq) ?_;refine gc (azq (rt q) hqs) ?_;refine gs (aa0 (.tmp rfl) rfl (by simp [ab1]; omega) (.tmp rfl) T46 rfl T29 rfl rfl (by simp; omega) rfl rfl) ?_ (6,0);refine gW (Wk.of (sl:=[(3,some (.ms 16 3 0 (i + 1))),(6,some (nA a)),(7,some (i64 a.length)),(8,some (i64 i))]) (hp:=[(16,some (.row 3 ((ab1 (a.take (i + 1))).map qA)))]) aa6 (.cons rfl (BlkSub.of (by rw [aaj hq]; simp only [ab1,map_append,agm]; rfl)) .nil)) ?_ (6,0);refine gW (Wk.rekey (k:=16) (d:=900) rfl rfl) ?_;refine ga aat ?_;exact gK1 hK1 (i + 1) hin
 ·have hin : i = a.length := by have : a.length <= i := (by simpa [aaa] using ht9); omega
  subst hin;refine gW ((Wk.freeze (k:=900) rfl).trans <| Wk.of (sl:=[(3,some (nA (ab1 a)))]) (hp:=[]) (.cons rfl (Sub.of (by rw [abq (by simp [ab1]),take_length]; rfl)) .nil) .nil) ?_;refine gE1 ?_;rfl
end Go.Lw
namespace Go.Lw
open Go.Proofs
theorem af5 (ts:LL) (m r:Nat) (ht:awt ts m r) (hm:m <= 5) (R:List AV) (hR:∀ j, j < m -> R[j]? = some (nA (ts.getD j []))) (k:Nat):∀ (j:Nat) (a b:List Rat) (e f:Nat), j <= m -> j <= k -> Nl j a -> Nl j b -> Cb e a -> Cb f b -> e + f + eB r j < 4398046511104 ->
  FnC prog 282 [.agg [.lst 1 R],nA a,nA b] (nA (rT ts k a b)):=by
 induction k using Nat.strongRecOn
 rename_i k ih;intro j a b e f hj hjk ha hb ca cb hs;obtain ⟨nx,dx⟩:=aqb ha oz;obtain ⟨ny,dy⟩:=aqb hb oz;have cx:Cb e (aau 5 a):=ca.sub (fun q hq=>ail 5 hq);have cy:Cb f (aau 5 b):=cb.sub (fun q hq=>ail 5 hq);have k1:=acu a oz ha;have k2:=acu b oz hb;rw [<- aj9 ha oz] at k1;rw [<- aj9 hb oz] at k2;obtain ⟨x,hx⟩:∃ x,x = aau 5 a:=⟨_,rfl⟩
 obtain ⟨y,hy⟩:∃ y,y = aau 5 b:=⟨_,rfl⟩
 rw [<- hx] at k1 nx dx cx;rw [<- hy] at k2 ny dy cy;have hlx:=nx.len5 oz;have hly:=ny.len5 oz;obtain ⟨n,hn⟩:∃ n,n = max x.length y.length:=⟨_,rfl⟩
 refine gF0 func282 ?_;refine gc k1 ?_;refine gc k2 ?_;refine gl ?_;refine gl ?_;refine gs (a5v (.tmp rfl) (.tmp rfl) rfl) ?_ (3,0);refine gW (Wk.of (sl:=[(1,some (nA x)),(2,some (nA y)),(3,some (.ptr 3 0)),(7,some (i64 n))]) (hp:=[(3,some (.box [.lst 1 R]))]) (.k (.k (.k (.cons rfl (Sub.int oz) .nil)))) (.k .nil)) ?_;refine gl ?_;refine glG ?_;refine gC (fun ht32=>?_) (fun ht32=>?_)
 ·have h0 : x.length = 0 \/ y.length = 0 := by have := a03 ht32; omega
  refine gR ?_;exact adv (by rw [a7p (by rw [<- hx,<- hy]; exact h0)]; exact Sub.nil _ _ _)
 ·have h0 : ¬ (x.length = 0 \/ y.length = 0) := by have := avj ht32; omega
  refine gC (fun ht34=>?_) (fun ht34=>?_)
  ·have h1 : max x.length y.length = 1 := by have := ht34; simp only [aaa, beq_iff_eq] at this; omega
   have e1:=bf2 (ts:=ts) (k:=k) (a:=a) (b:=b) (by rw [<- hx,<- hy]; exact h0) (by rw [<- hx,<- hy]; exact h1);rw [<- hx,<- hy] at e1;clear hx hy;have lx1:x.length = 1:=by omega
   have ly1:y.length = 1:=by omega
   clear hn;obtain ⟨p,rfl⟩:∃ p,x = [p]:=List.length_eq_one_iff.1 lx1;obtain ⟨q,rfl⟩:∃ q,y = [q]:=List.length_eq_one_iff.1 ly1;refine gi rfl ?_;refine gi rfl ?_;refine gc (azf (rt p) (rt q) (cx.qs oz (by simp:p ∈ [p])).ok (cy.qs oz (by simp:q ∈ [q])).ok) ?_;refine gD ?_;refine gE1 ?_;rw [e1,agm,agm]; rfl
  ·have h1 : n ≠ 1 := by have := ht34; simp only [aaa, beq_eq_false_iff_ne, ne_eq] at this; omega
   obtain ⟨i,hij,hmax⟩:=(bgb nx ny h0).resolve_left oz;obtain ⟨k',rfl⟩:∃ k',k = k' + 1:=⟨k - 1,by omega⟩
   have hp2:=Nat.two_pow_pos i;have hpi:2 ^ i <= 32:=aax (b:=5) oz;have hps:2 ^ (i + 1) = 2 * 2 ^ i:=by rw [Nat.pow_succ]; omega
   have hnn:n = 2 ^ (i + 1):=by omega
   have hes:eB r (i + 1) <= eB r j:=atl r hij;have hee:eB r (i + 1) = 2 * eB r i + r + 2:=rfl;have lx:(aay x (2 ^ (i + 1))).length = 2 ^ (i + 1):=abm oz;have ly:(aay y (2 ^ (i + 1))).length = 2 ^ (i + 1):=abm oz;obtain ⟨X,hX⟩:∃ X,X = aay x (2 ^ (i + 1)):=⟨_,rfl⟩
   obtain ⟨Y,hY⟩:∃ Y,Y = aay y (2 ^ (i + 1)):=⟨_,rfl⟩
   have cX:Cb e X:=by rw [hX]; exact cx.wide
   have cY:Cb f Y:=by rw [hY]; exact cy.wide
   rw [<- hX] at lx;rw [<- hY] at ly;have n1:Nl i (X.take (2 ^ i)):=.inr ⟨i,le_refl _,ac7 lx⟩;have n2:Nl i (X.drop (2 ^ i)):=.inr ⟨i,le_refl _,adc lx⟩;have n3:Nl i (Y.take (2 ^ i)):=.inr ⟨i,le_refl _,ac7 ly⟩;have n4:Nl i (Y.drop (2 ^ i)):=.inr ⟨i,le_refl _,adc ly⟩;have nd:=ht.1 i oz;have cd:=ht.2.cb i;have s1:=afi hm ht (k:=k') (show i <= m by omega) oz n1 n3 cX.take cY.take;have s2:=afi hm ht (k:=k') (show i <= m by omega) oz n2 n4 cX.drop cY.drop;have s3:=afi hm ht (k:=k') (show i <= m by omega) oz s2.1 nd s2.2.2 cd;have s4:=afi hm ht (k:=k') (show i <= m by omega) oz n1 n4 cX.take cY.drop;have s5:=afi hm ht (k:=k') (show i <= m by omega) oz n2 n3 cX.drop cY.take;have hrt:=a68 (ts:=ts) (k:=k') (a:=a) (b:=b) rfl (by rw [<- hx,<- hy]; exact h0) (by rw [<- hx,<- hy]; exact hmax);rw [<- hx,<- hy,<- hX,<- hY] at hrt;have w1:=agb x n oz oz;have w2:=agb y n oz oz;rw [hnn,<- hX] at w1;rw [hnn,<- hY] at w2;rw [<- hnn] at w1 w2;have pw:=ahm n oz;rw [show pwk n = i + 1 by rw [hnn]; exact (awk oz).1,show pwb n = true by rw [hnn]; exact (awk oz).2] at pw;refine gc w1 ?_;refine gc w2 ?_;refine gc pw ?_;refine gs (adg (.tmp rfl) (.const _) oz (show _ = ((2 ^ i:Nat):Int) by rw [ab3 oz,hnn,abw]) rfl) ?_;refine gs (aam (.tmp rfl) (.none _) (.some _ (.tmp rfl) oz) T46 rfl T29 rfl oz (by simp only [length_map]; omega) rfl) ?_;refine gs (adg (.tmp rfl) (.const _) oz (show _ = ((2 ^ i:Nat):Int) by rw [ab3 oz,hnn,abw]) rfl) ?_;refine gs (aam (.tmp rfl) (.some _ (.tmp rfl) oz) (.none _) T46 rfl T29 rfl (by simp only [length_map]; omega) oz rfl) ?_;refine gs (adg (.tmp rfl) (.const _) oz (show _ = ((2 ^ i:Nat):Int) by rw [ab3 oz,hnn,abw]) rfl) ?_;refine gs (aam (.tmp rfl) (.none _) (.some _ (.tmp rfl) oz) T46 rfl T29 rfl oz (by simp only [length_map]; omega) rfl) ?_;refine gs (adg (.tmp rfl) (.const _) oz (show _ = ((2 ^ i:Nat):Int) by rw [ab3 oz,hnn,abw]) rfl) ?_;refine gs (aam (.tmp rfl) (.some _ (.tmp rfl) oz) (.none _) T46 rfl T29 rfl (by simp only [length_map]; omega) oz rfl) ?_;refine gD ?_ (10,0);refine gW (Wk.of (sl:=[(3,some (.ptr 3 0)),(7,some (i64 n)),(8,some (i64 ((i + 1:Nat):Int))),(10,some (nA (X.take (2 ^ i)))),(11,some (nA (X.drop (2 ^ i)))),(12,some (nA (Y.take (2 ^ i)))),(13,some (nA (Y.drop (2 ^ i))))]) (hp:=[(3,some (.box [.lst 1 R]))]) (.k (.k (.k (.cons rfl (Sub.of (ag1 X (2 ^ i))) (.cons rfl (Sub.of (ae5 X (2 ^ i))) (.cons rfl (Sub.of (ag1 Y (2 ^ i))) (.cons rfl (Sub.of (ae5 Y (2 ^ i))) .nil))))))) (.k .nil)) ?_
   refine gc (ih k' oz i _ _ e f oz oz n1 n3 cX.take cY.take oz) ?_;refine gc (ih k' oz i _ _ e f oz oz n2 n4 cX.drop cY.drop oz) ?_;refine ga (show _ = (i:Int) by rw [abi oz]; omega) ?_;refine gi (hR i oz) ?_;refine gc (ih k' oz i _ _ _ _ oz oz s2.1 nd s2.2.2 cd oz) ?_;refine gc (aft _ _ (fun q hq=>s1.2.2.qs oz hq) (fun q hq=>s3.2.2.qs oz hq) (by have:=s1.1.le; omega) (by have:=s3.1.le; omega)) ?_;refine gD ?_;refine gc (ih k' oz i _ _ e f oz oz n1 n4 cX.take cY.drop oz) ?_;refine gc (ih k' oz i _ _ e f oz oz n2 n3 cX.drop cY.take oz) ?_;refine gc (aft _ _ (fun q hq=>s4.2.2.qs oz hq) (fun q hq=>s5.2.2.qs oz hq) (by have:=s4.1.le; omega) (by have:=s5.1.le; omega)) ?_;refine gD ?_;refine gs (adg (.tmp rfl) (.const _) oz (show _ = ((2 ^ i:Nat):Int) by rw [ab3 oz,hnn,abw]) rfl) ?_;refine gt (aab (aml 900 rfl _ (2 ^ i) (by have:=s1.1.le; have:=s3.1.le; rw [abp]; omega) oz) (ev2 rfl rfl) hHa rfl rfl) ?_;refine gs (adg (.tmp rfl) (.const _) oz (show _ = ((2 ^ i:Nat):Int) by rw [ab3 oz,hnn,abw]) rfl) ?_;refine gc (agb _ (2 ^ i) (by have:=s4.1.le; have:=s5.1.le; rw [abp]; omega) oz) ?_;refine gs (aep (.tmp rfl) rfl (by have:=s1.1.le; have:=s3.1.le; rw [length_map,abm (by rw [abp]; omega)]) (.tmp rfl) T46 rfl T29 rfl rfl (by have:=s4.1.le; have:=s5.1.le; rw [length_map,abm (by rw [abp]; omega)]; show (2 ^ i + 2 ^ i) * 56 <= 140737488355328; omega) rfl rfl) ?_;refine gE1 ?_;rw [hrt,<- map_append]; rfl
theorem aoh (ts:LL) (m r:Nat) (ht:awt ts m r) (hm:m <= 5) (R:List AV) (hR:∀ j, j < m -> R[j]? = some (nA (ts.getD j []))) (i n:Nat) (a:List Rat) (e:Nat) (hi:i + 1 <= m) (hnn:n = 2 ^ (i + 1)) (hal:a.length = 2 ^ (i + 1)) (ca:Cb e a) (hs:4 * e + 3 * eB r i + r + 1 < 4398046511104) :
  FnC prog 239 [.agg [.lst 1 R],nA a,i64 n] (nA (aj2 ts i a)):=by
 have hp2:=Nat.two_pow_pos i;have hpi:2 ^ i <= 32:=aax (b:=5) oz;have hps:2 ^ (i + 1) = 2 * 2 ^ i:=by rw [Nat.pow_succ]; omega
 have n1:Nl i (a.take (2 ^ i)):=.inr ⟨i,le_refl _,ac7 hal⟩;have n2:Nl i (a.drop (2 ^ i)):=.inr ⟨i,le_refl _,adc hal⟩;have nd:=ht.1 i oz;have cd:=ht.2.cb i;have s1:=afi hm ht (k:=i) (show i <= m by omega) oz n1 n1 ca.take ca.take;have s2:=afi hm ht (k:=i) (show i <= m by omega) oz n2 n2 ca.drop ca.drop;have s3:=afi hm ht (k:=i) (show i <= m by omega) oz s2.1 nd s2.2.2 cd;have w1:=agb a n oz oz;rw [show aay a n = a by unfold aay; rw [hnn,hal]; simp] at w1;have pw:=ahm n oz;rw [show pwk n = i + 1 by rw [hnn]; exact (awk oz).1,show pwb n = true by rw [hnn]; exact (awk oz).2] at pw;refine gF0 func239 ?_;refine gc w1 ?_;refine gc pw ?_;refine gs (adg (.tmp rfl) (.const _) oz (show _ = ((2 ^ i:Nat):Int) by rw [ab3 oz,hnn,abw]) rfl) ?_;refine gs (aam (.tmp rfl) (.none _) (.some _ (.tmp rfl) oz) T46 rfl T29 rfl oz (by simp only [length_map]; omega) rfl) ?_;refine gs (adg (.tmp rfl) (.const _) oz (show _ = ((2 ^ i:Nat):Int) by rw [ab3 oz,hnn,abw]) rfl) ?_;refine gs (aam (.tmp rfl) (.some _ (.tmp rfl) oz) (.none _) T46 rfl T29 rfl (by simp only [length_map]; omega) oz rfl) ?_;refine gD ?_ (4,0);refine gW (Wk.of (sl:=[(3,some (.ptr 3 0)),(7,some (i64 ((i + 1:Nat):Int))),(9,some (nA (a.take (2 ^ i)))),(10,some (nA (a.drop (2 ^ i))))]) (hp:=[(3,some (.box [.lst 1 R]))]) (.k (.k (.cons rfl (Sub.of (ag1 a (2 ^ i))) (.cons rfl (Sub.of (ae5 a (2 ^ i))) .nil)))) (.k .nil)) ?_;refine gc (af5 ts m r ht hm R hR i i _ _ e e oz oz n1 n1 ca.take ca.take oz) ?_;refine gc (af5 ts m r ht hm R hR i i _ _ e e oz oz n2 n2 ca.drop ca.drop oz) ?_;refine ga (show _ = (i:Int) by rw [abi oz]; omega) ?_;refine gi (hR i oz) ?_;refine gc (af5 ts m r ht hm R hR i i _ _ _ _ oz oz s2.1 nd s2.2.2 cd oz) ?_;refine gc (alb _ (fun q hq=>s3.2.2.qs oz hq) (by have:=s3.1.le; omega)) ?_;refine gc (aft _ _ (fun q hq=>s1.2.2.qs oz hq) (fun q hq=>s3.2.2.minus.qs oz hq) (by have:=s1.1.le; omega) (by have:=s3.1.le; rw [ab4]; omega)) ?_;refine gD ?_;refine gE1 ?_;rfl
theorem afz (ts:LL) (m r:Nat) (ht:awt ts m r) (hm:m <= 5) (hpos:∀ j, j < m -> 0 <= T.sgn (aae ts) j (aae ts j)) (R:List AV) (hR:∀ j, j < m -> R[j]? = some (nA (ts.getD j []))) (j:Nat):∀ (a:List Rat) (e:Nat), j <= m -> Nl j a -> Cb e a -> sB r j e < 4398046511104 ->
  FnC prog 152 [.agg [.lst 1 R],nA a] (i64 (T.sgn (aae ts) j (dec j a))):=by
 induction j using Nat.strongRecOn
 rename_i j ih;intro a e hj ha ca hs;have hse:=auy r j e;obtain ⟨s,hsa⟩:∃ s,s = sh j (dec j a):=⟨_,rfl⟩
 have hsd:dec j s = dec j a:=by rw [hsa,aa4]
 have hsn:Nl j s:=by rw [hsa]; exact ahs j _
 have cs:Cb e s:=by rw [hsa]; exact ca.sh ha
 have hls:=hsn.len5 oz;rw [<- hsd];refine gF0 func152 ?_;refine gc (hsa ▸ acu a oz ha) ?_;refine gl ?_;refine gC (fun ht15=>?_) (fun ht15=>?_)
 ·have h1 : s = [] := List.length_eq_zero_iff.1 (by have := ht15; simp only [aaa, beq_iff_eq] at this; omega);refine gE1 ?_;rw [h1,ae7,T.sgn_zero]; rfl
 ·have h1 : s.length ≠ 0 := by have := ht15; simp only [aaa, beq_eq_false_iff_ne, ne_eq] at this; omega
  refine gl ?_;refine gC (fun ht19=>?_) (fun ht19=>?_)
  ·have h2 : s.length = 1 := by have := ht19; simp only [aaa, beq_iff_eq] at this; omega
   obtain ⟨q,rfl⟩:=List.length_eq_one_iff.1 h2;refine gi rfl ?_;refine gc (ak6 (rt q) (cs.qs oz (by simp:q ∈ [q])).ok) ?_;refine gE1 ?_;rw [aib,T.sgn_ofQ,agm]
  ·have h2 : s.length ≠ 1 := by have := ht19; simp only [aaa, beq_eq_false_iff_ne, ne_eq] at this; omega
   obtain ⟨i, hij, hsl⟩:∃ i, i + 1 <= j /\ s.length = 2 ^ (i + 1):=by
    rcases ah0 hsn with h | h | h
    ·exact absurd h h1
    ·exact absurd h h2
    ·exact h
   have hp2:=Nat.two_pow_pos i;have hpi:2 ^ i <= 32:=aax (b:=5) oz;have hps:2 ^ (i + 1) = 2 * 2 ^ i:=by rw [Nat.pow_succ]; omega
   have n1:Nl i (s.take (2 ^ i)):=.inr ⟨i,le_refl _,ac7 hsl⟩;have n2:Nl i (s.drop (2 ^ i)):=.inr ⟨i,le_refl _,adc hsl⟩;have nd:=ht.1 i oz;have cd:=ht.2.cb i;obtain ⟨nn,dn,cn⟩:=ajk hm ht oz hsl cs;have b1:sB r i (4 * e + 3 * eB r i + r + 1) <= sB r j e:=at7 r e hij;have b2:sB r i e <= sB r i (4 * e + 3 * eB r i + r + 1):=aki r i oz;have b3:sB r i r <= sB r i (4 * e + 3 * eB r i + r + 1):=aki r i oz;have b4:=auy r i (4 * e + 3 * eB r i + r + 1);have k1:=ih i oz (s.take (2 ^ i)) e oz n1 cs.take oz;have k2:=ih i oz (s.drop (2 ^ i)) e oz n2 cs.drop oz;have k3:=ih i oz _ r oz nd cd oz;have k4:=ih i oz _ _ oz nn cn oz
   have v3:T.sgn (aae ts) i (dec i (ts.getD i [])) = 0 \/ T.sgn (aae ts) i (dec i (ts.getD i [])) = 1:=by
    have h9:0 <= T.sgn (aae ts) i (dec i (ts.getD i [])):=hpos i oz;have:=T.sgn_cases (aae ts) i (dec i (ts.getD i []));omega
   have hres:T.sgn (aae ts) j (dec j s) = T.sgn3 (T.sgn (aae ts) i (dec i (s.take (2 ^ i)))) (T.sgn (aae ts) i (dec i (s.drop (2 ^ i)))) (T.sgn (aae ts) i (dec i (ts.getD i []))) (T.sgn (aae ts) i (dec i (aj2 ts i s))):=by
    rw [al1 _ oz hij,dn]; rfl
   rw [bb3 v3] at hres;have v1:=T.sgn_cases (aae ts) i (dec i (s.take (2 ^ i)));have v2:=T.sgn_cases (aae ts) i (dec i (s.drop (2 ^ i)));have v4:=T.sgn_cases (aae ts) i (dec i (aj2 ts i s));have pw:=ahm s.length oz;rw [show pwk s.length = i + 1 by rw [hsl]; exact (awk oz).1,show pwb s.length = true by rw [hsl]; exact (awk oz).2] at pw;refine gc pw ?_;refine ga (show _ = (i:Int) by rw [abi oz]; omega) ?_;refine gi (hR i oz) ?_;refine gs (adg (.tmp rfl) (.const _) oz (show _ = ((2 ^ i:Nat):Int) by rw [ab3 oz,hsl,abw]) rfl) ?_;refine gs (aam (.tmp rfl) (.none _) (.some _ (.tmp rfl) oz) T46 rfl T29 rfl oz (by simp only [length_map]; omega) rfl) ?_;refine gc (by have h9:=k1; rw [<- ag1] at h9; exact h9) ?_;refine gs (adg (.tmp rfl) (.const _) oz (show _ = ((2 ^ i:Nat):Int) by rw [ab3 oz,hsl,abw]) rfl) ?_;refine gs (aam (.tmp rfl) (.some _ (.tmp rfl) oz) (.none _) T46 rfl T29 rfl (by simp only [length_map]; omega) oz rfl) ?_;refine gc (by have h9:=k2; rw [<- ae5] at h9; exact h9) ?_;refine gc k3 ?_;refine ga (aq7 v2 (.inr v3)) ?_;refine gD ?_;refine gC (fun ht57=>?_) (fun ht57=>?_)
   ·have e2:=a03 ht57;refine gE1 ?_;rw [hres,if_pos e2]
   ·have e2:=avj ht57;refine gC (fun ht60=>?_) (fun ht60=>?_)
    ·have e3 : T.sgn (aae ts) i (dec i (s.take (2 ^ i))) = 0 := by simpa [aaa] using ht60
     refine gE1 ?_;rw [hres,if_neg e2,if_pos e3]; rfl
    ·have e3 : ¬ T.sgn (aae ts) i (dec i (s.take (2 ^ i))) = 0 := by simpa [aaa] using ht60
     refine gc (aoh ts m r ht hm R hR i s.length s e oz hsl hsl cs oz) ?_;refine gc k4 ?_;refine ga (aq7 v1 v4) ?_;refine gD ?_;refine gE1 ?_;rw [hres,if_neg e2,if_neg e3]; rfl
theorem amb (rs:List (List Rt)) (r:Nat) (h:TR rs r):FnC prog 123 [ahu rs] (i64 (aer rs)):=by
 have hll:=h.ll;have hr:=h.le;refine gF0 func123 ?_;refine gl ?_;refine gC (fun ht9=>?_) (fun ht9=>?_)
 ·have h5 : 5 < rs.length := by have := ht9; simp only [aaa, decide_eq_true_eq] at this; omega
  refine gE1 ?_;rw [a29 h5]; rfl
 ·have h5 : rs.length <= 5 := by have := ht9; simp only [aaa, decide_eq_false_iff_not] at this; omega
  refine gl ?_;refine gL1 [1,11,12] [1] (fun (k:Nat)=>[(13,some (i64 k))]) (fun _=>[]) (fun k=>k <= rs.length /\ ∀ j,j < k -> a1y rs j) (fun k=>rs.length - k) 0 ⟨zero_le _,fun j hj=>by omega⟩ ?_;rintro k ⟨hk,hj⟩ K1 hK1;refine gC (fun ht14=>?_) (fun ht14=>?_)
  ·have hin : k < rs.length := by simpa [aaa] using ht14
   obtain ⟨d,hd⟩:=ab5 hin;have hdm:=mem_of_getElem? hd;have hdl:=h.len d hdm;refine gi (aag hd) ?_;refine gl ?_;refine gs (ae3 (.const _) (.tmp rfl) oz (agj oz) rfl) ?_;refine gC (fun ht22=>?_) (fun ht22=>?_)
   ·have h1 : d.length ≠ 2 ^ k := by have := ht22; simp only [aaa, bne_iff_ne, ne_eq] at this; omega
    refine gE1 ?_;rw [a28 h5 hd hj h1]; rfl
   ·have h1 : d.length = 2 ^ k := by have := ht22; simp only [aaa, bne_eq_false_iff_eq] at this; omega
    have hnu:=ape k oz d (h.ok d hdm) hdl;refine gc hnu ?_;refine gC (fun ht27=>?_) (fun ht27=>?_)
    ·have h2:=ahv ht27;refine gE1 ?_;rw [a23 h5 hd hj h1 h2]
    ·have h2:=aho ht27;have hts:=ax9 (ts:=llq rs) (fun j hjk=>(hj j hjk).nl) h.rb;have hq:=awo h2 (h.ok d hdm);have hcb:Cb r (lq d):=by have:=h.rb.cb k; rw [ank,getD_eq_getElem?_getD,hd] at this; exact this
     have hsg:FnC prog 152 [ahu rs, nR d] (i64 (T.sgn (aae (llq rs)) k (dec k (lq d)))):=by
      have h9:=afz ((llq rs).take k) k r hts oz (fun j hjk=>by rw [T.sgn_congr j (fun i hi=>ahb (show i < k by omega)),ahb hjk]; exact (hj j hjk).2.2) (rs.map nR) (fun j hjk=>bkn h.ok (show k <= rs.length by omega) hj hjk) k (lq d) r (le_refl _) hq.2 hcb (arh (le_refl k) (by have:=h.three; omega) hr (by have:=apw k; omega));rw [T.sgn_congr k (fun j hjk=>ahb hjk)] at h9;rw [hq.1,agt];rw [<- hq.1]; exact h9
     refine gc hsg ?_;refine gC (fun ht32=>?_) (fun ht32=>?_)
     ·have h3 : T.sgn (aae (llq rs)) k (dec k (lq d)) < 0 := by simpa [aaa] using ht32
      refine gE1 ?_;rw [a3x h5 hd hj h1 h2 h3]; rfl
     ·have h3 : ¬ T.sgn (aae (llq rs)) k (dec k (lq d)) < 0 := by simpa [aaa] using ht32
      refine ga aat ?_;exact gK1 hK1 (k + 1) ⟨hin,fun j hjk=>by rcases lt_or_ge j k with h9 | h9; exact hj j h9; (have:j = k:=by omega); subst this; exact a6m hd h1 h2 h3⟩
  ·have hin : k = rs.length := by have : rs.length <= k := (by simpa [aaa] using ht14); omega
   subst hin;refine gE1 ?_;rw [a2v h5 hj]; rfl
theorem adj (rs:List (List Rt)) (r:Nat) (h:TR rs r) (xs:List (List Rt)) (hx:∀ a ∈ xs, (∀ x ∈ a, x.ok) /\ a.length <= 281474976710656) (hl:xs.length <= 281474976710656):FnC prog 151 [ahu rs, .lst 1 (xs.map nR)] (i64 (abh rs xs)):=by
 refine gF0 func151 ?_;refine gc (amb rs r h) ?_;refine gC (fun ht12=>?_) (fun ht12=>?_)
 ·have h1:=ahv ht12;refine gE1 ?_;rw [awl h1]
 ·have h1:=aho ht12;have h5:rs.length <= 5:=by have:=(abr h h1).1.five; rwa [length_map] at this
  refine gl ?_;refine gL1 [2,14,15] [2] (fun (i:Nat)=>[(16,some (i64 i))]) (fun _=>[]) (fun i=>i <= xs.length /\ ∀ x ∈ xs.take i,aic rs.length x = 0) (fun i=>xs.length - i) 0 ⟨zero_le _,fun x hx=>by simp at hx⟩ ?_;rintro i ⟨hi,hj⟩ K1 hK1;refine gC (fun ht17=>?_) (fun ht17=>?_)
  ·have hin : i < xs.length := by simpa [aaa] using ht17
   obtain ⟨a,ha⟩:=ab5 hin;have hok:=hx a (mem_of_getElem? ha);refine gi (aag ha) ?_;refine gl ?_;refine gc (ape rs.length h5 a hok.1 hok.2) ?_;refine gC (fun ht26=>?_) (fun ht26=>?_)
   ·have h2:=ahv ht26;refine gE1 ?_;rw [ava h1 ha hj h2]
   ·have h2:=aho ht26;refine ga aat ?_;exact gK1 hK1 (i + 1) ⟨hin,fun x hx=>by rw [aaj ha] at hx; rcases List.mem_append.1 hx with h9 | h9; exact hj x h9; (rw [List.mem_singleton.1 h9]; exact h2)⟩
  ·have hin : i = xs.length := by have : xs.length <= i := (by simpa [aaa] using ht17); omega
   subst hin;rw [take_length] at hj;refine gE1 ?_;rw [aog h1 hj]; rfl
theorem a6h (rs:List (List Rt)) (r:Nat) (h:TR rs r) (a b:List Rt) (e f:Nat) (ha:NR a e) (hb:NR b f) (he:e + f <= lm rs.length) :
  FnC prog 215 [ahu rs,nR a,nR b] (.tup [nA (if abh rs [a,b] = 0 then sh rs.length (T.add rs.length (dec rs.length (lq a)) (dec rs.length (lq b))) else []),i64 (abh rs [a,b])]):=by
 have hlm:=ajn rs.length;refine gF0 func215 ?_;refine gc (adj rs r h [a,b] (am3 ha hb) (by simp)) ?_;refine gC (fun ht15=>?_) (fun ht15=>?_) (st2:=(77777,0))
 ·have h1:=ahv ht15;refine gR ?_;exact abc (by rw [if_neg h1]; exact Sub.tup (.cons (.nil _ _ _) (.cons (.refl _) .nil)))
 ·have h1:=aho ht15;obtain ⟨h2,h3⟩:=ag2 h1;obtain ⟨tw,e0⟩:=abr h h2;obtain ⟨e1,na⟩:=ha.num (h3 a (by simp));obtain ⟨e2,nb⟩:=hb.num (h3 b (by simp));have h5:rs.length <= 5:=by have:=tw.five; rwa [length_map] at this
  have hla:=na.len5 h5;have hlb:=nb.len5 h5;have qa:∀ q ∈ lq a,Qs q:=fun q hq=>ha.cb.qs oz hq
  have qb:∀ q ∈ lq b,Qs q:=fun q hq=>hb.cb.qs oz hq
  have qp:∀ q ∈ acx (lq a) (lq b),Qs q:=fun q hq=>(ha.cb.plus hb.cb).qs oz hq
  have np:=akk na nb;refine gW (Wk.of (sl:=[(1,some (nA (lq a))),(2,some (nA (lq b))),(3,some (.ptr 3 0)),(8,some (i64 (abh rs [a,b])))]) (hp:=[(3,some (.box [.lst 1 (rs.map nR)]))]) (.cons rfl (Sub.of e1) (.cons rfl (Sub.of e2) (.k (.k .nil)))) (.k .nil)) ?_;refine gc (aft _ _ qa qb oz oz) ?_;refine gc (acu _ h5 np) ?_;refine gE2 ?_;rw [if_pos h1,h1,ac6]; rfl
theorem a9q (rs:List (List Rt)) (r:Nat) (h:TR rs r) (a b:List Rt) (e f:Nat) (ha:NR a e) (hb:NR b f) (he:e + f <= lm rs.length) :
  FnC prog 213 [ahu rs,nR a,nR b] (.tup [nA (if abh rs [a,b] = 0 then sh rs.length (T.add rs.length (dec rs.length (lq a)) (T.neg rs.length (dec rs.length (lq b)))) else []),i64 (abh rs [a,b])]):=by
 have hlm:=ajn rs.length;refine gF0 func213 ?_;refine gc (adj rs r h [a,b] (am3 ha hb) (by simp)) ?_;refine gC (fun ht15=>?_) (fun ht15=>?_) (st2:=(77777,0))
 ·have h1:=ahv ht15;refine gR ?_;exact abc (by rw [if_neg h1]; exact Sub.tup (.cons (.nil _ _ _) (.cons (.refl _) .nil)))
 ·have h1:=aho ht15;obtain ⟨h2,h3⟩:=ag2 h1;obtain ⟨tw,e0⟩:=abr h h2;obtain ⟨e1,na⟩:=ha.num (h3 a (by simp));obtain ⟨e2,nb⟩:=hb.num (h3 b (by simp));have h5:rs.length <= 5:=by have:=tw.five; rwa [length_map] at this
  have hla:=na.len5 h5;have hlb:=nb.len5 h5;have qa:∀ q ∈ lq a,Qs q:=fun q hq=>ha.cb.qs oz hq
  have qb:∀ q ∈ lq b,Qs q:=fun q hq=>hb.cb.qs oz hq
  have qm:∀ q ∈ ab1 (lq b),Qs q:=fun q hq=>hb.cb.minus.qs oz hq
  have qp:∀ q ∈ acx (lq a) (ab1 (lq b)),Qs q:=fun q hq=>(ha.cb.plus hb.cb.minus).qs oz hq
  have np:=akk na (ajm nb);refine gW (Wk.of (sl:=[(1,some (nA (lq a))),(2,some (nA (lq b))),(3,some (.ptr 3 0)),(8,some (i64 (abh rs [a,b])))]) (hp:=[(3,some (.box [.lst 1 (rs.map nR)]))]) (.cons rfl (Sub.of e1) (.cons rfl (Sub.of e2) (.k (.k .nil)))) (.k .nil)) ?_;refine gc (alb _ qb oz) ?_;refine gc (aft _ _ qa qm oz (by rw [ab4]; omega)) ?_;refine gc (acu _ h5 np) ?_;refine gE2 ?_;rw [if_pos h1,h1,ac6,aeo]; rfl
theorem a8h (rs:List (List Rt)) (r:Nat) (h:TR rs r) (a b:List Rt) (e f:Nat) (ha:NR a e) (hb:NR b f) (he:e + f <= lm rs.length) :
  FnC prog 214 [ahu rs,nR a,nR b] (.tup [nA (if abh rs [a,b] = 0 then sh rs.length (T.mul (aae (llq rs)) rs.length (dec rs.length (lq a)) (dec rs.length (lq b))) else []),i64 (abh rs [a,b])]):=by
 have hr:=h.le;have hlm:=ajn rs.length;refine gF0 func214 ?_;refine gc (adj rs r h [a,b] (am3 ha hb) (by simp)) ?_;refine gC (fun ht15=>?_) (fun ht15=>?_) (st2:=(77777,0))
 ·have h1:=ahv ht15;refine gR ?_;exact abc (by rw [if_neg h1]; exact Sub.tup (.cons (.nil _ _ _) (.cons (.refl _) .nil)))
 ·have h1:=aho ht15;obtain ⟨h2,h3⟩:=ag2 h1;obtain ⟨tw,e0⟩:=abr h h2;obtain ⟨e1,na⟩:=ha.num (h3 a (by simp));obtain ⟨e2,nb⟩:=hb.num (h3 b (by simp));have hlen:(llq rs).length = rs.length:=length_map _;have h5:rs.length <= 5:=by have:=tw.five; omega
  have hla:=na.len5 h5;have hlb:=nb.len5 h5;have htw:=tw.ok;rw [hlen] at htw;have hE:=a7m r h5;have np:=afi h5 htw (k:=rs.length) (le_refl rs.length) (le_refl _) na nb ha.cb hb.cb;have hti:=af5 (llq rs) rs.length r htw h5 ((llq rs).map nA) (fun j hj=>akf oz) rs.length rs.length _ _ e f (le_refl _) (le_refl _) na nb ha.cb hb.cb oz;refine gW (Wk.of (sl:=[(1,some (nA (lq a))),(2,some (nA (lq b))),(3,some (.ptr 3 0)),(8,some (i64 (abh rs [a,b])))]) (hp:=[(3,some (.box [.lst 1 ((llq rs).map nA)]))]) (.cons rfl (Sub.of e1) (.cons rfl (Sub.of e2) (.k (.k .nil)))) (.cons rfl (BlkSub.boxL (.cons (.of (aff e0)) .nil) rfl) .nil)) ?_;refine gc hti ?_;refine gc (acu _ h5 np.1) ?_;refine gE2 ?_;rw [if_pos h1,h1,np.2.1]; rfl
theorem a6x (rs:List (List Rt)) (r:Nat) (h:TR rs r) (a b:List Rt) (e f:Nat) (ha:NR a e) (hb:NR b f) (he:e + f + 1 <= lm rs.length) :
  FnC prog 68 [ahu rs,nR a,nR b] (.tup [i64 (if abh rs [a,b] = 0 then T.sgn (aae (llq rs)) rs.length (T.add rs.length (dec rs.length (lq a)) (T.neg rs.length (dec rs.length (lq b)))) else 0),i64 (abh rs [a,b])]):=by
 have hr:=h.le;have hlm:=ajn rs.length;refine gF0 func68 ?_;refine gc (adj rs r h [a,b] (am3 ha hb) (by simp)) ?_;refine gC (fun ht15=>?_) (fun ht15=>?_) (st2:=(77777,0))
 ·have h1:=ahv ht15;refine gE2 ?_;rw [if_neg h1]; rfl
 ·have h1:=aho ht15;obtain ⟨h2,h3⟩:=ag2 h1;obtain ⟨tw,e0⟩:=abr h h2;obtain ⟨e1,na⟩:=ha.num (h3 a (by simp));obtain ⟨e2,nb⟩:=hb.num (h3 b (by simp));have hlen:(llq rs).length = rs.length:=length_map _;have h5:rs.length <= 5:=by have:=tw.five; omega
  have hla:=na.len5 h5;have hlb:=nb.len5 h5;have htw:=tw.ok;rw [hlen] at htw;have qa:∀ q ∈ lq a,Qs q:=fun q hq=>ha.cb.qs oz hq
  have qb:∀ q ∈ lq b,Qs q:=fun q hq=>hb.cb.qs oz hq
  have qm:∀ q ∈ ab1 (lq b),Qs q:=fun q hq=>hb.cb.minus.qs oz hq
  have np:=akk na (ajm nb);have hsg:=afz (llq rs) rs.length r htw h5 (fun j hj=>tw.pos j oz) ((llq rs).map nA) (fun j hj=>akf oz) rs.length _ _ (le_refl _) np (ha.cb.plus hb.cb.minus) (arh (le_refl rs.length) (by have:=tw.three; omega) hr oz);refine gW (Wk.of (sl:=[(1,some (nA (lq a))),(2,some (nA (lq b))),(3,some (.ptr 3 0)),(8,some (i64 (abh rs [a,b])))]) (hp:=[(3,some (.box [.lst 1 ((llq rs).map nA)]))]) (.cons rfl (Sub.of e1) (.cons rfl (Sub.of e2) (.k (.k .nil)))) (.cons rfl (BlkSub.boxL (.cons (.of (aff e0)) .nil) rfl) .nil)) ?_;refine gc (alb _ qb oz) ?_;refine gc (aft _ _ qa qm oz (by rw [ab4]; omega)) ?_;refine gc hsg ?_;refine gD ?_;refine gE2 ?_;rw [if_pos h1,h1,ac6,aeo]; rfl
theorem a52 (rs:List (List Rt)) (r:Nat) (h:TR rs r) (a:List Rt) (e:Nat) (ha:NR a e) (he:e <= lm rs.length) :
  FnC prog 67 [ahu rs,nR a] (.tup [i64 (if abh rs [a] = 0 then T.sgn (aae (llq rs)) rs.length (dec rs.length (lq a)) else 0),i64 (abh rs [a])]):=by
 have hr:=h.le;have hlm:=ajn rs.length;refine gF0 func67 ?_;refine gc (adj rs r h [a] (fun x hx=>by rw [List.mem_singleton.1 hx]; exact ⟨ha.ok,ha.len⟩) (by simp)) ?_;refine gC (fun ht12=>?_) (fun ht12=>?_) (st2:=(77777,0))
 ·have h1:=ahv ht12;refine gE2 ?_;rw [if_neg h1]; rfl
 ·have h1:=aho ht12;obtain ⟨h2,h3⟩:=ag2 h1;obtain ⟨tw,e0⟩:=abr h h2;obtain ⟨e1,na⟩:=ha.num (h3 a (by simp));have hlen:(llq rs).length = rs.length:=length_map _;have h5:rs.length <= 5:=by have:=tw.five; omega
  have htw:=tw.ok;rw [hlen] at htw;have hsg:=afz (llq rs) rs.length r htw h5 (fun j hj=>tw.pos j oz) ((llq rs).map nA) (fun j hj=>akf oz) rs.length _ _ (le_refl _) na ha.cb (arh (le_refl rs.length) (by have:=tw.three; omega) hr oz);refine gW (Wk.of (sl:=[(1,some (nA (lq a))),(2,some (.ptr 2 0)),(6,some (i64 (abh rs [a])))]) (hp:=[(2,some (.box [.lst 1 ((llq rs).map nA)]))]) (.cons rfl (Sub.of e1) (.k (.k .nil))) (.cons rfl (BlkSub.boxL (.cons (.of (aff e0)) .nil) rfl) .nil)) ?_;refine gc hsg ?_;refine gE2 ?_;rw [if_pos h1,h1]; rfl
theorem a5w (rs:List (List Rt)) (r:Nat) (h:TR rs r) (a:List Rt) (e:Nat) (ha:NR a e) (he:e <= lm rs.length) :
  FnC prog 203 [ahu rs,nR a] (.tup [nA (if abh rs [a] = 0 then aay (lq a) (2 ^ rs.length) else []),i64 (abh rs [a])]):=by
 have hlm:=ajn rs.length;refine gF0 func203 ?_;refine gc (adj rs r h [a] (fun x hx=>by rw [List.mem_singleton.1 hx]; exact ⟨ha.ok,ha.len⟩) (by simp)) ?_;refine gC (fun ht12=>?_) (fun ht12=>?_) (st2:=(77777,0))
 ·have h1:=ahv ht12;refine gR ?_;exact abc (by rw [if_neg h1]; exact Sub.tup (.cons (.nil _ _ _) (.cons (.refl _) .nil)))
 ·have h1:=aho ht12;obtain ⟨h2,h3⟩:=ag2 h1;obtain ⟨tw,e0⟩:=abr h h2;obtain ⟨e1,na⟩:=ha.num (h3 a (by simp));have hlen:(llq rs).length = rs.length:=length_map _;have h5:rs.length <= 5:=by have:=tw.five; omega
  have hp5:2 ^ rs.length <= 32:=aax (b:=5) h5;refine gW (Wk.of (sl:=[(1,some (nA (lq a))),(2,some (.ptr 2 0)),(6,some (i64 (abh rs [a])))]) (hp:=[(2,some (.box [.lst 1 (rs.map nR)]))]) (.cons rfl (Sub.of e1) (.k (.k .nil))) (.k .nil)) ?_;refine gl ?_;refine gs (ae3 (.const _) (.tmp rfl) oz (agj oz) rfl) ?_;refine gc (agb _ _ na.le oz) ?_;refine gE2 ?_;rw [if_pos h1,h1]; rfl
theorem bd1 (x:Rt) (hx:x.ok) (hs:Qs x.q):FnC prog 35 [x.av] (nA (sh 0 (x.q:Rat))):=by
 have hadd:=ann x (rt 0) hx Qs.zero.ok;rw [bck] at hadd;refine gF0 func35 ?_;refine gc (ak6 x hx) ?_;refine gC (fun ht5=>?_) (fun ht5=>?_)
 ·have h0 : x.q = 0 := afg (by simpa [aaa] using ht5);refine gR ?_;exact adv (by rw [h0]; exact Sub.nil _ _ _)
 ·have h0 : x.q ≠ 0 := fun h => by rw [h] at ht5; cases ht5
  refine gc (Con.subA (.cons (.refl _) (.cons ai1 .nil)) hadd) ?_;refine gE1 ?_;have:sh 0 (x.q:Rat) = [x.q]:=if_neg h0;rw [this]; rfl
end Go.Lw
namespace Go.Lw
open Go.Proofs
theorem bhf {p q:Rat} (hp:Qs p) (hq:Qs q):FnC prog 172 [qA p, qA q] (qA (p + q)):=by
 have h:=adq (rt p) (rt q) hp.ok hq.ok;rw [agm,agm] at h;exact h
theorem bc3 {p q:Rat} (hp:Qs p) (hq:Qs q):FnC prog 177 [qA p, qA q] (qA (p - q)):=by
 have h:=as8 (rt p) (rt q) hp.ok hq.ok;rw [agm,agm] at h;exact h
theorem a8l {p q:Rat} (hp:Qs p) (hq:Qs q):FnC prog 236 [qA p, qA q] (qA (p * q)):=by
 have h:=alw (rt p) (rt q) hp.ok hq.ok;rw [agm,agm] at h;exact h
theorem bq2 {p q:Rat} (hp:Qs p) (hq:Qs q):FnC prog 309 [qA p, qA q] (.tup [qA (p / q), ai2 (if q = 0 then 8 else 0)]):=by
 have h:=alj (rt p) (rt q) hp.ok hq.ok;rw [agm,agm] at h;exact h
theorem boc {p:Rat} (hp:Qs p):FnC prog 175 [qA p] (i64 (ag3 p)):=by
 have h:=afd (rt p) hp.ok;rw [agm] at h;exact h
theorem a64 {p q:Rat} (hp:Qs p) (hq:Qs q):FnC prog 105 [qA p, qA q] (qA (p + q)):=by
 have h:=ann (rt p) (rt q) hp.ok hq.ok;rw [agm,agm] at h;exact h
theorem bn5 {p q:Rat} (hp:Qs p) (hq:Qs q):FnC prog 108 [qA p, qA q] (qA (p - q)):=by
 have h:=axn (rt p) (rt q) hp.ok hq.ok;rw [agm,agm] at h;exact h
theorem bgs {p q:Rat} (hp:Qs p) (hq:Qs q):FnC prog 106 [qA p, qA q] (qA (p * q)):=by
 have h:=azf (rt p) (rt q) hp.ok hq.ok;rw [agm,agm] at h;exact h
theorem bo3 {p q:Rat} (hp:Qs p) (hq:Qs q):FnC prog 211 [qA p, qA q] (.tup [qA (p / q), i64 (if q = 0 then 8 else 0)]):=by
 have h:=aya (rt p) (rt q) hp.ok hq.ok;rw [agm,agm] at h;exact h
theorem apc (x:Tn) (hx:x.t.ok):FnC prog 166 [x.av] (ai2 x.err):=by
 refine gF0 func166 ?_;refine gc (adn x.t hx) ?_;refine gcG (fun _=>(afd x.t hx)) ?_;refine gC (fun ht16=>?_) (fun ht16=>?_)
 ·have h0:=Tn.err_yes ht16;refine gE1 ?_;rw [h0]; rfl
 ·have h0:=Tn.err_no ht16;refine gE1 ?_;rw [h0]; rfl
theorem ars {p q:Rat} (hp:Qs p) (hq:Qs q):FnC prog 263 [qA p, qA q] (qA (p / q)):=by
 refine gF0 func263 ?_;refine gc (bq2 hp hq) ?_;refine gC (fun ht14=>?_) (fun ht14=>?_)
 ·have h0:q = 0:=by
   have:=aeq ht14
   by_cases h:q = 0
   ·exact h
   ·rw [if_neg h] at this; exact absurd rfl this
  refine gR ?_;exact adv (by rw [h0,be5]; exact ai1)
 ·refine gE1 ?_;rfl
theorem ajt (half:Bool) {t:Rat} {e:Nat} (ht:Qb e t) (he:e <= 1000000):FnC prog 167 [Tn.av ⟨rt t, half⟩] (.tup [qA (au6 half t), qA (auz half t)]):=by
 have qt:Qs t:=ht.qs oz;have m2:=ht.mul ht;have one:Qb 1 (((1:Int):Rat)):=Qb.one;have d:=one.add m2;refine gF0 func167 ?_;refine gC (fun ht8=>?_) (fun ht8=>?_)
 ·have h0:half = true:=ht8;refine gc (ac1 (-1) oz) ?_;refine gR ?_;exact abc (by subst h0; exact Sub.tup (.cons (.refl _) (.cons ai1 .nil)))
 ·have h0:half = false:=ht8;refine gc (ac1 1 oz) ?_;refine gc (a8l qt qt) ?_;refine gD ?_;refine gc (bhf (one.qs oz) (m2.qs oz)) ?_;refine gc (bc3 (one.qs oz) (m2.qs oz)) ?_;refine gc (ars ((one.sub m2).qs oz) (d.qs oz)) ?_;refine gc (bhf qt qt) ?_;refine gc (ars ((ht.add ht).qs oz) (d.qs oz)) ?_;refine gD ?_;refine gE2 ?_;subst h0; rfl
theorem atn (x:Tn) (hx:x.t.ok) {e:Nat} (hq:Qb e x.t.q) (he:e <= 1000000):FnC prog 74 [x.av] (.tup [qA (if x.err = 0 then au6 x.half x.t.q else 0), ai2 x.err]):=by
 refine gF0 func74 ?_;refine gc (apc x hx) ?_;refine gC (fun ht10=>?_) (fun ht10=>?_)
 ·have h1:=aeq ht10;refine gR ?_;exact abc (by rw [if_neg h1]; exact Sub.tup (.cons ai1 (.cons (.refl _) .nil)))
 ·have h1:=ad1 ht10;have hd:=ajt x.half hq he;rw [<- Rt.eq_rt hx (Tn.ok_valid h1)] at hd;refine gc hd ?_;refine gE2 ?_;rw [if_pos h1,h1]; rfl
theorem a5j (x:Tn) (hx:x.t.ok) {e:Nat} (hq:Qb e x.t.q) (he:e <= 1000000):FnC prog 75 [x.av] (.tup [qA (if x.err = 0 then auz x.half x.t.q else 0), ai2 x.err]):=by
 refine gF0 func75 ?_;refine gc (apc x hx) ?_;refine gC (fun ht10=>?_) (fun ht10=>?_)
 ·have h1:=aeq ht10;refine gR ?_;exact abc (by rw [if_neg h1]; exact Sub.tup (.cons ai1 (.cons (.refl _) .nil)))
 ·have h1:=ad1 ht10;have hd:=ajt x.half hq he;rw [<- Rt.eq_rt hx (Tn.ok_valid h1)] at hd;refine gc hd ?_;refine gE2 ?_;rw [if_pos h1,h1]; rfl
theorem a1d (x:Tn) (hx:x.t.ok):FnC prog 34 [x.av] (i64 x.err):=by
 refine gF0 func34 ?_;refine gc (ahh x.t hx) ?_;refine gcG (fun _=>(ak6 x.t hx)) ?_;refine gC (fun ht16=>?_) (fun ht16=>?_)
 ·have h0:=Tn.err_yes ht16;refine gE1 ?_;rw [h0]; rfl
 ·have h0:=Tn.err_no ht16;refine gE1 ?_;rw [h0]; rfl
theorem aq8:FnC prog 109 [] (qA 1):=by
 refine gF0 func109 ?_;refine gc (ahy 1 oz) ?_;refine gE1 ?_
 first | rfl | (simp; done)
theorem auh {p q:Rat} (hp:Qs p) (hq:Qs q):FnC prog 107 [qA p, qA q] (qA (p / q)):=by
 refine gF0 func107 ?_;refine gc (bo3 hp hq) ?_;refine gE1 ?_
 first | rfl | (simp; done)
theorem a81 (half:Bool) {t:Rat} {e:Nat} (ht:Qb e t) (he:e <= 1000000):FnC prog 36 [Tn.av ⟨rt t, half⟩] (qA (au6 half t)):=by
 have qt:Qs t:=ht.qs oz;have m2:=ht.mul ht;have d:=Qb.one.add m2;refine gF0 func36 ?_;refine gC (fun ht5=>?_) (fun ht5=>?_)
 ·have h0:half = true:=ht5;refine gc (ahy (-1) oz) ?_;refine gE1 ?_;subst h0; rfl
 ·have h0:half = false:=ht5;refine gc (bgs qt qt) ?_;refine gc aq8 ?_;refine gc (bn5 (Qb.one.qs oz) (m2.qs oz)) ?_;refine gc aq8 ?_;refine gc (a64 (Qb.one.qs oz) (m2.qs oz)) ?_;refine gc (auh ((Qb.one.sub m2).qs oz) (d.qs oz)) ?_;refine gD ?_;refine gE1 ?_;subst h0; rfl
theorem a9a (half:Bool) {t:Rat} {e:Nat} (ht:Qb e t) (he:e <= 1000000):FnC prog 37 [Tn.av ⟨rt t, half⟩] (qA (auz half t)):=by
 have qt:Qs t:=ht.qs oz;have m2:=ht.mul ht;have d:=Qb.one.add m2;refine gF0 func37 ?_;refine gC (fun ht4=>?_) (fun ht4=>?_)
 ·have h0:half = true:=ht4;refine gR ?_;exact adv (by subst h0; exact ai1)
 ·have h0:half = false:=ht4;refine gc (a64 qt qt) ?_;refine gc aq8 ?_;refine gc (bgs qt qt) ?_;refine gc (a64 (Qb.one.qs oz) (m2.qs oz)) ?_;refine gc (auh ((ht.add ht).qs oz) (d.qs oz)) ?_;refine gD ?_;refine gE1 ?_;subst h0; rfl
end Go.Lw
namespace Go.Lw
open Go.Proofs
theorem a8i {ts:LL} {r e f:Nat} (tw:Tw ts r) {a b:List Rat} (ha:Nm ts.length e a) (hb:Nm ts.length f b) (he:e + f <= lm ts.length) :
  FnC prog 274 [aa5 ts,nA a,nA b] (.tup [nA (sh ts.length (T.add ts.length (dec ts.length a) (dec ts.length b))),.v .nilIface]):=by
 have h:=a0j (ts.map (List.map rt)) r tw.tr (a.map rt) (b.map rt) e f (ha.rt oz) (hb.rt oz) (by rw [length_map]; exact he);have h0:abh (ts.map (List.map rt)) [a.map rt,b.map rt] = 0:=ajb tw ha hb;rw [h0,if_pos rfl,ad2,agt,agt,ait,ait,length_map] at h;exact h
theorem ar1 {ts:LL} {r e f:Nat} (tw:Tw ts r) {a b:List Rat} (ha:Nm ts.length e a) (hb:Nm ts.length f b) (he:e + f <= lm ts.length) :
  FnC prog 147 [aa5 ts,nA a,nA b] (.tup [nA (sh ts.length (T.add ts.length (dec ts.length a) (T.neg ts.length (dec ts.length b)))),.v .nilIface]):=by
 have h:=a0r (ts.map (List.map rt)) r tw.tr (a.map rt) (b.map rt) e f (ha.rt oz) (hb.rt oz) (by rw [length_map]; exact he);have h0:abh (ts.map (List.map rt)) [a.map rt,b.map rt] = 0:=ajb tw ha hb;rw [h0,if_pos rfl,ad2,agt,agt,ait,ait,length_map] at h;exact h
theorem baq {ts:LL} {r e f:Nat} (tw:Tw ts r) {a b:List Rat} (ha:Nm ts.length e a) (hb:Nm ts.length f b) (he:e + f <= lm ts.length) :
  FnC prog 148 [aa5 ts,nA a,nA b] (.tup [nA (sh ts.length (T.mul (aae ts) ts.length (dec ts.length a) (dec ts.length b))),.v .nilIface]):=by
 have h:=a1c (ts.map (List.map rt)) r tw.tr (a.map rt) (b.map rt) e f (ha.rt oz) (hb.rt oz) (by rw [length_map]; exact he);have h0:abh (ts.map (List.map rt)) [a.map rt,b.map rt] = 0:=ajb tw ha hb;rw [h0,if_pos rfl,ad2,agt,agt,aq1,ait,ait,length_map] at h;exact h
theorem a9f {ts:LL} {r e:Nat} (tw:Tw ts r) {a:List Rat} (ha:Nm ts.length e a) (he:e <= lm ts.length) :
  FnC prog 192 [aa5 ts,nA a] (.tup [i64 (T.sgn (aae ts) ts.length (dec ts.length a)),.v .nilIface]):=by
 have h:=aw4 (ts.map (List.map rt)) r tw.tr (a.map rt) e (ha.rt he) (by rw [length_map]; exact he);have h0:abh (ts.map (List.map rt)) [a.map rt] = 0:=arg tw ha;rw [h0,if_pos rfl,ad2,agt,aq1,ait,length_map] at h;exact h
theorem bm5 {ts:LL} {r e f:Nat} (tw:Tw ts r) {a b:List Rat} (ha:Nm ts.length e a) (hb:Nm ts.length f b) (he:e + f <= lm ts.length) :
  FnC prog 215 [aa5 ts,nA a,nA b] (.tup [nA (sh ts.length (T.add ts.length (dec ts.length a) (dec ts.length b))),i64 0]):=by
 have h:=a6h (ts.map (List.map rt)) r tw.tr (a.map rt) (b.map rt) e f (ha.rt oz) (hb.rt oz) (by rw [length_map]; exact he);have h0:abh (ts.map (List.map rt)) [a.map rt,b.map rt] = 0:=ajb tw ha hb;rw [h0,if_pos rfl,ad2,agt,agt,ait,ait,length_map] at h;exact h
theorem bms {ts:LL} {r e f:Nat} (tw:Tw ts r) {a b:List Rat} (ha:Nm ts.length e a) (hb:Nm ts.length f b) (he:e + f <= lm ts.length) :
  FnC prog 213 [aa5 ts,nA a,nA b] (.tup [nA (sh ts.length (T.add ts.length (dec ts.length a) (T.neg ts.length (dec ts.length b)))),i64 0]):=by
 have h:=a9q (ts.map (List.map rt)) r tw.tr (a.map rt) (b.map rt) e f (ha.rt oz) (hb.rt oz) (by rw [length_map]; exact he);have h0:abh (ts.map (List.map rt)) [a.map rt,b.map rt] = 0:=ajb tw ha hb;rw [h0,if_pos rfl,ad2,agt,agt,ait,ait,length_map] at h;exact h
theorem bl6 {ts:LL} {r e f:Nat} (tw:Tw ts r) {a b:List Rat} (ha:Nm ts.length e a) (hb:Nm ts.length f b) (he:e + f <= lm ts.length) :
  FnC prog 214 [aa5 ts,nA a,nA b] (.tup [nA (sh ts.length (T.mul (aae ts) ts.length (dec ts.length a) (dec ts.length b))),i64 0]):=by
 have h:=a8h (ts.map (List.map rt)) r tw.tr (a.map rt) (b.map rt) e f (ha.rt oz) (hb.rt oz) (by rw [length_map]; exact he);have h0:abh (ts.map (List.map rt)) [a.map rt,b.map rt] = 0:=ajb tw ha hb;rw [h0,if_pos rfl,ad2,agt,agt,aq1,ait,ait,length_map] at h;exact h
theorem bl4 {ts:LL} {r e f:Nat} (tw:Tw ts r) {a b:List Rat} (ha:Nm ts.length e a) (hb:Nm ts.length f b) (he:e + f + 1 <= lm ts.length) :
  FnC prog 68 [aa5 ts,nA a,nA b] (.tup [i64 (T.sgn (aae ts) ts.length (T.add ts.length (dec ts.length a) (T.neg ts.length (dec ts.length b)))),i64 0]):=by
 have h:=a6x (ts.map (List.map rt)) r tw.tr (a.map rt) (b.map rt) e f (ha.rt oz) (hb.rt oz) (by rw [length_map]; exact he);have h0:abh (ts.map (List.map rt)) [a.map rt,b.map rt] = 0:=ajb tw ha hb;rw [h0,if_pos rfl,ad2,agt,agt,aq1,ait,ait,length_map] at h;exact h
theorem bje {ts:LL} {r e:Nat} (tw:Tw ts r) {a:List Rat} (ha:Nm ts.length e a) (he:e <= lm ts.length) :
  FnC prog 67 [aa5 ts,nA a] (.tup [i64 (T.sgn (aae ts) ts.length (dec ts.length a)),i64 0]):=by
 have h:=a52 (ts.map (List.map rt)) r tw.tr (a.map rt) e (ha.rt he) (by rw [length_map]; exact he);have h0:abh (ts.map (List.map rt)) [a.map rt] = 0:=arg tw ha;rw [h0,if_pos rfl,ad2,agt,aq1,ait,length_map] at h;exact h
theorem a7l {ts:LL} {r e:Nat} (tw:Tw ts r) {a:List Rat} (ha:Nm ts.length e a) (he:e <= lm ts.length) :
  FnC prog 73 [aa5 ts,nA a] (.tup [nA (sh ts.length (T.neg ts.length (dec ts.length a))),.v .nilIface]):=by
 have h:=ar9 (ts.map (List.map rt)) r tw.tr (a.map rt) e (ha.rt he) (by rw [length_map]; exact he);have h0:abh (ts.map (List.map rt)) [a.map rt] = 0:=arg tw ha;rw [h0,if_pos rfl,ad2,agt,ait,length_map] at h;exact h
theorem bff {ts:LL} {r:Nat} (tw:Tw ts r):FnC prog 70 [aa5 ts] (.v .nilIface):=by
 have h:=afe (ts.map (List.map rt)) r tw.tr;rw [tw.chk,ad2] at h;exact h
theorem a09 {q:Rat} (h:Qs q):FnC prog 134 [qA q] (nA (sh 0 (q:Rat))):=by
 have h1:=a50 (rt q) h.ok (by rw [agm]; exact h);rw [agm] at h1;exact h1
theorem a5s {q:Rat} (h:Qs q):FnC prog 35 [qA q] (nA (sh 0 (q:Rat))):=by
 have h1:=bd1 (rt q) h.ok (by rw [agm]; exact h);rw [agm] at h1;exact h1
theorem ag5 {ts:LL} {r e:Nat} (tw:Tw ts r) (ls:LL) (hl:∀ l ∈ ls, Nm ts.length e l) (he:e <= lm ts.length) (hn:ls.length <= 1000):FnC prog 196 [aa5 ts, .lst 1 (ls.map nA)] (.v .nilIface):=by
 refine gF0 func196 ?_;refine gc (bff tw) ?_;refine gC (fun ht13=>?_) (fun ht13=>?_) (st1:=(3,0))
 ·cases ht13
 ·refine gl ?_;refine gL1 [2,15,16] [2] (fun (i:Nat)=>[(17,some (i64 i))]) (fun _=>[]) (fun i=>i <= ls.length) (fun i=>ls.length - i) 0 (zero_le _) ?_;rintro i hi K1 hK1;refine gC (fun ht18=>?_) (fun ht18=>?_)
  ·have hin : i < ls.length := by simpa [aaa] using ht18
   obtain ⟨l,hll⟩:=ab5 hin;have hok:=hl l (mem_of_getElem? hll);refine gi (aag hll) ?_;refine gc (a7l tw hok he) ?_;refine gC (fun ht28=>?_) (fun ht28=>?_) (st1:=(9,0))
   ·cases ht28
   ·refine ga aat ?_;exact gK1 hK1 (i + 1) hin
  ·have hin : i = ls.length := by have : ls.length <= i := (by simpa [aaa] using ht18); omega
   refine gE1 ?_
   first | rfl | (simp; done)
theorem adp {ts:LL} {r e:Nat} (tw:Tw ts r) (ps:List (List Rat × List Rat)) (hl:∀ p ∈ ps, Nm ts.length e p.1 /\ Nm ts.length e p.2) (he:e <= lm ts.length) (hn:ps.length <= 500):FnC prog 142 [aa5 ts, .lst 2 (ps.map fun p=>ptA p.1 p.2)] (.v .nilIface):=by
 refine gF0 func142 ?_;refine gl ?_;refine gW (Wk.virt 900 1 rfl) ?_;refine gL1 [2,8,9] [2] (fun (i:Nat)=>[(5,some (.ms 900 1 0 (2 * i))),(10,some (i64 i))]) (fun i=>[(900,some (.row 1 ((am7 (ps.take i)).map nA)))]) (fun i=>i <= ps.length) (fun i=>ps.length - i) 0 (zero_le _) ?_;rintro i hi K1 hK1;refine gC (fun ht11=>?_) (fun ht11=>?_) (st2:=(7,0))
 ·have hin : i < ps.length := by simpa [aaa] using ht11
  obtain ⟨p,hp⟩:=ab5 hin;have hfl:(am7 (ps.take i)).length = 2 * i:=by rw [anf,length_take]; omega
  refine gi (aag hp) ?_;refine gs (aa0 (.tmp rfl) rfl (by rw [length_map,hfl]) (.tmp rfl) T34 rfl T46 rfl rfl (by simp; omega) rfl rfl) ?_ (6,0);refine gW (Wk.of (sl:=[(2,some (.ptr 2 0)),(5,some (.ms 20 1 0 (2 * i + 2))),(8,some (.lst 2 (ps.map fun p=>ptA p.1 p.2))),(9,some (i64 ps.length)),(10,some (i64 i))]) (hp:=[(2,some (.box [.lst 1 (ts.map nA)])),(20,some (.row 1 ((am7 (ps.take (i + 1))).map nA)))]) aa6 (.k (.cons rfl (BlkSub.of (by rw [aaj hp,axd,map_append]; rfl)) .nil))) ?_ (6,0);refine gW (Wk.rekey (k:=20) (d:=900) rfl rfl) ?_;refine ga aat ?_;exact gK1 hK1 (i + 1) hin
 ·have hin : i = ps.length := by have : ps.length <= i := (by simpa [aaa] using ht11); omega
  subst hin;refine gW ((Wk.freeze (k:=900) rfl).trans <| Wk.of (sl:=[(2,some (.ptr 2 0)),(5,some (.lst 1 ((am7 ps).map nA)))]) (hp:=[(2,some (.box [.lst 1 (ts.map nA)]))]) (.k (.cons rfl (Sub.of (by rw [abq (by rw [length_map,anf,length_take]; omega),take_length])) .nil)) (.k .nil)) ?_;refine gc (ag5 tw (am7 ps) (aw3 hl) he (by rw [anf]; omega)) ?_;refine gE1 ?_
  first | rfl | (simp; done)
theorem aof (R:List AV) (a:List Rat):Con prog 276 [.ptr 1000 0, nA a, .v .nilIface] [(1000, some (.box [.lst 1 R, .v .nilIface]))] (nA a) [(1000, some (.box [.lst 1 R, .v .nilIface]))]:=by
 refine gF func276 (fun k z h=>aa3 h) ?_;refine gC (fun ht11=>?_) (fun ht11=>?_) (st2:=(77777,0))
 ·refine gR ?_;exact Fin.keep (abt rfl)
 ·cases ht11
theorem anw {ts:LL} {r e f:Nat} (tw:Tw ts r) {a b:List Rat} (ha:Nm ts.length e a) (hb:Nm ts.length f b) (he:e + f <= lm ts.length) :
  Con prog 235 [.ptr 1000 0,nA a,nA b] [(1000,some (azy ts))] (nA (sh ts.length (T.add ts.length (dec ts.length a) (dec ts.length b)))) [(1000,some (azy ts))]:=by
 refine gF func235 (fun k z h=>aa3 h) ?_;refine gc (a8i tw ha hb he) ?_;refine gt (aab (aof _ _) (ev3 rfl rfl rfl) hHa rfl rfl) ?_;refine gR ?_;exact Fin.keep (abt rfl)
theorem anu {ts:LL} {r e f:Nat} (tw:Tw ts r) {a b:List Rat} (ha:Nm ts.length e a) (hb:Nm ts.length f b) (he:e + f <= lm ts.length) :
  Con prog 231 [.ptr 1000 0,nA a,nA b] [(1000,some (azy ts))] (nA (sh ts.length (T.add ts.length (dec ts.length a) (T.neg ts.length (dec ts.length b))))) [(1000,some (azy ts))]:=by
 refine gF func231 (fun k z h=>aa3 h) ?_;refine gc (ar1 tw ha hb he) ?_;refine gt (aab (aof _ _) (ev3 rfl rfl rfl) hHa rfl rfl) ?_;refine gR ?_;exact Fin.keep (abt rfl)
theorem aem {ts:LL} {r e f:Nat} (tw:Tw ts r) {a b:List Rat} (ha:Nm ts.length e a) (hb:Nm ts.length f b) (he:e + f <= lm ts.length) :
  Con prog 197 [.ptr 1000 0,nA a,nA b] [(1000,some (azy ts))] (nA (sh ts.length (T.mul (aae ts) ts.length (dec ts.length a) (dec ts.length b)))) [(1000,some (azy ts))]:=by
 refine gF func197 (fun k z h=>aa3 h) ?_;refine gc (baq tw ha hb he) ?_;refine gt (aab (aof _ _) (ev3 rfl rfl rfl) hHa rfl rfl) ?_;refine gR ?_;exact Fin.keep (abt rfl)
theorem aw5 {ts:LL} {r e f:Nat} (tw:Tw ts r) {a b c d:List Rat} (ha:Nm ts.length e a) (hb:Nm ts.length e b) (hc:Nm ts.length f c) (hd:Nm ts.length f d) (he:2 * (e + f + kB r ts.length) <= lm ts.length) :
  Con prog 149 [.ptr 1000 0,ptA a b,ptA c d] [(1000,some (azy ts))] (nA (sh ts.length (bbv ts (dec ts.length a) (dec ts.length b) (dec ts.length c) (dec ts.length d)))) [(1000,some (azy ts))]:=by
 refine gF func149 (fun k z h=>aa3 h) ?_;refine gt (aab (aem tw ha hc oz) (ev3 rfl rfl rfl) hHa rfl rfl) ?_;refine gt (aab (aem tw hb hd oz) (ev3 rfl rfl rfl) hHa rfl rfl) ?_;refine gt (aab (ayj ▸ anw tw (ha.mul tw rfl hc) (hb.mul tw rfl hd) oz) (ev3 rfl rfl rfl) hHa rfl rfl) ?_;refine gD ?_;refine gR ?_;exact Fin.keep (abt rfl)
theorem a00 {ts:LL} {r e f:Nat} (tw:Tw ts r) {a b c d:List Rat} (ha:Nm ts.length e a) (hb:Nm ts.length e b) (hc:Nm ts.length f c) (hd:Nm ts.length f d) (he:2 * (e + f + kB r ts.length) <= lm ts.length) :
  Con prog 146 [.ptr 1000 0,ptA a b,ptA c d] [(1000,some (azy ts))] (nA (sh ts.length (ao8 ts (dec ts.length a) (dec ts.length b) (dec ts.length c) (dec ts.length d)))) [(1000,some (azy ts))]:=by
 refine gF func146 (fun k z h=>aa3 h) ?_;refine gt (aab (aem tw ha hd oz) (ev3 rfl rfl rfl) hHa rfl rfl) ?_;refine gt (aab (aem tw hb hc oz) (ev3 rfl rfl rfl) hHa rfl rfl) ?_;refine gt (aab (anp ▸ anu tw (ha.mul tw rfl hd) (hb.mul tw rfl hc) oz) (ev3 rfl rfl rfl) hHa rfl rfl) ?_;refine gD ?_;refine gR ?_;exact Fin.keep (abt rfl)
end Go.Lw
namespace Go.Lw
def T.inv (r:(k:Nat) -> T k):(k:Nat) -> T k -> T k
  | 0,q=>(1:Rat) / q
  | k + 1, x =>
    if T.isZ k x.2 = true then (T.inv r k x.1,T.zero k)
    else if T.sgn r k (T.norm r k x) = 0 then (T.inv r k (T.add k x.1 x.1),T.zero k)
    else (T.mul r k x.1 (T.inv r k (T.norm r k x)),T.mul r k (T.neg k x.2) (T.inv r k (T.norm r k x)))
theorem T.inv_low (r:(k:Nat) -> T k) (k:Nat) (x:T k):T.inv r (k + 1) (x, T.zero k) = (T.inv r k x, T.zero k):=by
 have h:=(T.isZ_iff k (T.zero k)).2 rfl
 conv=>lhs; unfold T.inv
 simp only [if_pos h]
theorem akt (r:(k:Nat) -> T k) {i j:Nat} {s L:List Rat} (hs:s.length <= 2 ^ i) (hL:L.length <= 2 ^ i) (h:dec i L = T.inv r i (dec i s)) (hij:i <= j):dec j L = T.inv r j (dec j s):=by
  induction j with
  | zero => have : i = 0 := by omega
            subst this; exact h
  | succ j ih =>
    by_cases h':i = j + 1
    · rw [<- h']; exact h
    · rw [afq (le_trans hs (aax oz)),afq (le_trans hL (aax oz)),T.inv_low,ih oz]
def iB (r:Nat):Nat -> Nat -> Nat
  | 0,e=>e
  | j + 1,e=>e + iB r j (4 * e + 3 * eB r j + r + 1) + eB r (j + 1)
theorem baa (r:Nat):∀ j e, e <= iB r j e
 | 0,e=>le_refl _
 | j + 1,e=>by simp only [iB]; omega
theorem auk (r:Nat):∀ j {e f:Nat}, e <= f -> iB r j e <= iB r j f
 | 0,e,f,h=>h
 | j + 1, e, f, h=>by
  have:=auk r j (e:=4 * e + 3 * eB r j + r + 1) (f:=4 * f + 3 * eB r j + r + 1) oz;simp only [iB]; omega
theorem bpp (r j e:Nat):iB r j e <= iB r (j + 1) e:=by
 have:=auk r j (e:=e) (f:=4 * e + 3 * eB r j + r + 1) oz;simp only [iB]; omega
theorem bg6 (r e:Nat) {i j:Nat} (h:i <= j):iB r i e <= iB r j e:=by
  induction j with
  | zero => have : i = 0 := by omega
            subst this; exact le_refl _
  | succ j ih =>
    by_cases hij:i = j + 1
    · rw [hij]; exact le_refl _
    · exact le_trans (ih oz) (bpp r j e)
theorem bg5 (r e:Nat) {j:Nat} (h:j <= 1):iB r j e <= 5 * e + 2 * eB r j:=by
 match j,h with
 | 0,_=>simp only [iB,eB]; omega
 | 1,_=>simp only [iB,eB]; omega
theorem a15 {r:(k:Nat) -> T k} {n:Nat} (h:Sg (E r n) (sg r n)) (hd:0 <= sg r n (rtE r n)) {x y:E r n} (hz:sg r (n + 1) (mkX x y) ≠ 0) (hN:sg r n (nnE x y) = 0):sg r n (x + x) ≠ 0:=by
 have hx:sg r n x ≠ 0:=by
  intro hx;rw [atd,hN,hx] at hz;have h1:sg r n (x * x) = 0:=by rw [h.mul,hx]; simp
  have h2:=h.zadd (y:=-(y * y * rtE r n)) h1;unfold nnE at hN;rw [h2,h.neg,h.mul,h.mul] at hN;unfold T.sgn3 at hz;have c1:=h.cs y;have c2:=h.cs (rtE r n);rcases c1 with e | e | e <;> rcases c2 with e' | e' | e' <;> rw [e,e'] at hN <;> rw [e,e'] at hz <;> first | omega | (simp at hz) | (simp at hN)
 rcases h.cs x with e | e | e
 ·have := h.padd (x := -x) (y := -x) (by rw [h.neg, e]; rfl) (by rw [h.neg, e]; decide);rw [show -x + -x = -(x + x) by grind,h.neg] at this;omega
 ·exact absurd e hx
 ·have:=h.padd (x:=x) (y:=x) e oz;omega
theorem Cb.inv1 {e:Nat} {q:Rat} (h:Cb e [q]) (hq:q ≠ 0):Cb e [(1:Rat) / q]:=by
 obtain ⟨D,N,⟨h0,h1⟩,h2,h3⟩:=h;obtain ⟨n,hn,hl⟩:=h1 q (by simp)
 have hD:((D:Int):Rat) ≠ 0:=by
  intro h9;have:(D:Int) = 0:=Rat.intCast_eq_zero_iff.1 h9;omega
 have hn0:n ≠ 0:=by
  rintro rfl;rw [show ((0:Int):Rat) = 0 from rfl] at hn;rcases Rat.mul_eq_zero.1 hn with h9 | h9
  ·exact hq h9
  ·exact hD h9
 have hnq:((n:Int):Rat) ≠ 0:=fun h9=>hn0 (Rat.intCast_eq_zero_iff.1 h9)
 refine ⟨n.natAbs,D,⟨by omega,?_⟩,le_trans hl h3,h2⟩;intro x hx;rw [List.mem_singleton.1 hx];have key:(1:Rat) / q * (n:Rat) = ((D:Int):Rat):=by rw [<- hn]; grind
 rcases Int.natAbs_eq n with e9 | e9
 ·refine ⟨D, ?_, by simp⟩;rw [<- e9]; exact key
 ·refine ⟨-(D : Int), ?_, by simp⟩;rw [Rat.intCast_neg,<- key]
  conv=>rhs; rw [e9]
  rw [Rat.intCast_neg]; grind
theorem bdr {e n:Nat} {s:List Rat} (h:Cb e s):Cb e (afm (s.take n) (ab1 (s.drop n)) n):=by
 obtain ⟨D,N,h1,h2,h3⟩:=h;exact ⟨D,N,(h1.sub (fun q hq=>mem_of_mem_take hq)).join (h1.sub (fun q hq=>List.mem_of_mem_drop hq)).minus,h2,h3⟩
theorem a78:∀ {j i:Nat} {x:T j}, (sh j x).length = 2 ^ (i + 1) -> i + 1 <= j -> T.isZ i (dec i ((sh j x).drop (2 ^ i))) = false
 | 0,i,x,_,h=>by omega
 | j + 1, i, x, hl, h=>by
  cases hz:T.isZ j x.2
  ·have h1:=bh8 hz;rw [h1] at hl
   have e:i = j:=by
    rcases Nat.lt_trichotomy i j with h9 | h9 | h9
    ·have := Nat.pow_lt_pow_right (a := 2) oz (show i + 1 < j + 1 by omega);omega
    ·exact h9
    ·omega
   subst e;have h2:dec (i + 1) (sh (i + 1) x) = x:=aa4 (i + 1) x;have h3:dec i ((sh (i + 1) x).drop (2 ^ i)) = x.2:=congrArg Prod.snd h2;rw [h3]; exact hz
  ·have h1:sh (j + 1) x = sh j x.1:=by
    conv=>lhs; unfold sh
    rw [if_pos hz]
   rw [h1] at hl ⊢;have h2:=(ahs j x.1).le
   have h3:i + 1 <= j:=by
    rcases lt_or_ge j (i + 1) with h9 | h9
    ·have:=Nat.pow_lt_pow_right (a:=2) oz h9;omega
    ·exact h9
   exact a78 hl h3
theorem bop (r:(k:Nat) -> T k) {i:Nat} {x:T (i + 1)} (hz:T.isZ i x.2 = false) (h0:T.sgn r i (T.norm r i x) = 0):T.inv r (i + 1) x = (T.inv r i (T.add i x.1 x.1), T.zero i):=by
 conv=>lhs; unfold T.inv
 rw [if_neg (by rw [hz]; decide),if_pos h0]
theorem bm2 (r:(k:Nat) -> T k) {i:Nat} {x:T (i + 1)} (hz:T.isZ i x.2 = false) (h0:T.sgn r i (T.norm r i x) ≠ 0) :
  T.inv r (i + 1) x = (T.mul r i x.1 (T.inv r i (T.norm r i x)),T.mul r i (T.neg i x.2) (T.inv r i (T.norm r i x))):=by
 conv=>lhs; unfold T.inv
 rw [if_neg (by rw [hz]; decide),if_neg h0]
theorem mul_low (r:(k:Nat) -> T k) (i:Nat) (x y w:T i):T.mul r (i + 1) (x, y) (w, T.zero i) = (T.mul r i x w, T.mul r i y w):=by
 show (T.add i (T.mul r i x w) (T.mul r i (T.mul r i y (T.zero i)) (r i)),T.add i (T.mul r i x (T.zero i)) (T.mul r i y w)) = _;rw [T.mul_zero,T.zero_mul,T.mul_zero,T.add_zero,T.zero_add]
end Go.Lw
namespace Go.Lw
open Go.Proofs
theorem asm {n e:Nat} {l:List Rat} (h:Nm n e l) (he:e <= 4398046511103):NR (l.map rt) e:=by
 refine ⟨?_,by have:=h.nl.len5 h.five; rw [length_map]; omega,by rw [ait]; exact h.cb⟩;intro x hx;obtain ⟨q,hq,rfl⟩:=List.mem_map.1 hx;exact (h.cb.qs oz hq).ok
theorem bn6 {ts:LL} {j e:Nat} {a:List Rat} {q:Rat} (h5:j <= 5) (ha:Nl j a) (ca:Cb e a) (he:e < 4398046511104) (hs:sh j (dec j a) = [q]) (hq:q ≠ 0) :
  FnC prog 277 [aa5 ts,nA a] (nA [1 / q]):=by
 have qa:∀ q ∈ a,Qs q:=fun q hq=>ca.qs he hq
 have cs:=ca.sh ha;rw [hs] at cs;have qq:Qs q:=cs.qs he (by simp);have hsh:=acc a h5 ha qa;rw [hs] at hsh;have hdv:=alj (rt 1) (rt q) (Qb.one.qs oz).ok qq.ok;rw [agm,agm,if_neg hq] at hdv;refine gF0 func277 ?_;refine gc hsh ?_;refine gl ?_;refine gC (fun ht13=>?_) (fun ht13=>?_) (st2:=(77777,0))
 ·refine gc (ac1 1 oz) ?_;refine gi rfl ?_;refine gc hdv ?_;refine gD ?_;refine gE1 ?_;rfl
 ·cases ht13
theorem bnc {ts:LL} {m r:Nat} (ht:awt ts m r) (hm:m <= 5) (hml:m <= ts.length) {j e i:Nat} {a s L:List Rat} (h5:j <= 5) (ha:Nl j a) (ca:Cb e a) (he:4 * e + 3 * eB r i + r + 1 < 4398046511104) (hs:sh j (dec j a) = s) (hi:i + 1 <= m)
  (hsl:s.length = 2 ^ (i + 1)) (hb:sB r i (4 * e + 3 * eB r i + r + 1) < 4398046511104) (h0:T.sgn (aae ts) i (dec i (al5 ts i s)) = 0)
  (hL:FnC prog 277 [aa5 ts,nA (acx (s.take (2 ^ i)) (s.take (2 ^ i)))] (nA L)):FnC prog 277 [aa5 ts,nA a] (nA L):=by
 have qa:∀ q ∈ a,Qs q:=fun q hq=>ca.qs oz hq
 have cs:=ca.sh ha;have hsh:=acc a h5 ha qa;rw [hs] at cs hsh;have hp2:=Nat.two_pow_pos i;have hpi:2 ^ i <= 32:=aax (b:=5) oz;have hps:2 ^ (i + 1) = 2 * 2 ^ i:=by rw [Nat.pow_succ]; omega
 obtain ⟨nn,dn,cn⟩:=ald ht oz hsl cs;have k4:=aey ts m r ht hm hml i _ _ oz nn cn hb;have qs:∀ q ∈ s.take (2 ^ i),Qs q:=fun q hq=>cs.take.qs oz hq
 refine gF0 func277 ?_;refine gc hsh ?_;refine gl ?_;refine gC (fun ht13=>?_) (fun ht13=>?_) (st1:=(3,0))
 ·exact absurd ht13 (by simp only [aaa,beq_iff_eq]; omega)
 ·refine gl ?_;refine gs (adg (.tmp rfl) (.const _) oz (show _ = ((2 ^ i:Nat):Int) by rw [ab3 oz,hsl,abw]) rfl) ?_;refine gc (akr ts m r ht hm hml i s e oz hsl cs oz) ?_;refine gc k4 ?_;refine gC (fun ht33=>?_) (fun ht33=>?_) (st2:=(77777,0))
  ·refine gs (aam (.tmp rfl) (.none _) (.some _ (.tmp rfl) oz) T46 rfl T29 rfl oz (by simp only [length_map]; omega) rfl) ?_;refine gs (aam (.tmp rfl) (.none _) (.some _ (.tmp rfl) oz) T46 rfl T29 rfl oz (by simp only [length_map]; omega) rfl) ?_;refine gc (by have h9:=ae4 _ _ qs qs (by simp; omega) (by simp; omega); rw [<- ag1] at h9; exact h9) ?_;refine gc hL ?_;refine gD ?_;refine gE1 ?_;rfl
  ·exact absurd ht33 (by rw [h0]; decide)
theorem bou {ts:LL} {m r:Nat} (ht:awt ts m r) (hm:m <= 5) (hml:m <= ts.length) {j e f i:Nat} {a s L:List Rat} (h5:j <= 5) (ha:Nl j a) (ca:Cb e a) (he:4 * e + 3 * eB r i + r + 1 < 4398046511104) (hs:sh j (dec j a) = s) (hi:i + 1 <= m)
  (hsl:s.length = 2 ^ (i + 1)) (hb:sB r i (4 * e + 3 * eB r i + r + 1) < 4398046511104) (h0:T.sgn (aae ts) i (dec i (al5 ts i s)) ≠ 0)
  (hL:FnC prog 277 [aa5 ts,nA (al5 ts i s)] (nA L)) (nL:Nl i L) (cL:Cb f L) (hf:e + f + eB r (i + 1) < 4398046511104) :
  FnC prog 277 [aa5 ts,nA a] (nA (pT ts (i + 1) (afm (s.take (2 ^ i)) (ab1 (s.drop (2 ^ i))) (2 ^ i)) L)):=by
 have qa:∀ q ∈ a,Qs q:=fun q hq=>ca.qs oz hq
 have cs:=ca.sh ha;have hsh:=acc a h5 ha qa;rw [hs] at cs hsh;have hp2:=Nat.two_pow_pos i;have hpi:2 ^ i <= 32:=aax (b:=5) oz;have hps:2 ^ (i + 1) = 2 * 2 ^ i:=by rw [Nat.pow_succ]; omega
 obtain ⟨nn,dn,cn⟩:=ald ht oz hsl cs;have k4:=aey ts m r ht hm hml i _ _ oz nn cn hb;have qy:∀ q ∈ s.drop (2 ^ i),Qs q:=fun q hq=>cs.drop.qs oz hq
 have lx:(s.take (2 ^ i)).length = 2 ^ i:=ac7 hsl;have ly:(s.drop (2 ^ i)).length = 2 ^ i:=adc hsl;have nj:Nl (i + 1) (afm (s.take (2 ^ i)) (ab1 (s.drop (2 ^ i))) (2 ^ i)):=.inr ⟨i + 1,le_refl _,by rw [ag4 oz (by rw [ab4]; omega)]; omega⟩;have cj:Cb e (afm (s.take (2 ^ i)) (ab1 (s.drop (2 ^ i))) (2 ^ i)):=bdr cs;have hti:=aee ts m r ht hm hml (i + 1) (i + 1) _ _ e f hi (le_refl _) nj (nL.mono oz) cj cL hf;refine gF0 func277 ?_;refine gc hsh ?_;refine gl ?_;refine gC (fun ht13=>?_) (fun ht13=>?_) (st1:=(3,0))
 ·exact absurd ht13 (by simp only [aaa,beq_iff_eq]; omega)
 ·refine gl ?_;refine gs (adg (.tmp rfl) (.const _) oz (show _ = ((2 ^ i:Nat):Int) by rw [ab3 oz,hsl,abw]) rfl) ?_;refine gc (akr ts m r ht hm hml i s e oz hsl cs oz) ?_;refine gc k4 ?_;refine gC (fun ht33=>?_) (fun ht33=>?_) (st1:=(8,0))
  ·exact absurd ht33 (by simp only [aaa,beq_iff_eq]; omega)
  ·refine gs (aam (.tmp rfl) (.none _) (.some _ (.tmp rfl) oz) T46 rfl T29 rfl oz (by simp only [length_map]; omega) rfl) ?_;refine gs (aam (.tmp rfl) (.some _ (.tmp rfl) oz) (.none _) T46 rfl T29 rfl (by simp only [length_map]; omega) oz rfl) ?_;refine gc (by have h9:=ag6 _ qy oz; rw [<- ae5] at h9; exact h9) ?_;refine gc (by have h9:=aks (s.take (2 ^ i)) (ab1 (s.drop (2 ^ i))) (2 ^ i) oz (by rw [ab4]; omega) oz; rw [<- ag1] at h9; exact h9) ?_;refine gc hL ?_;refine gc hti ?_;refine gD ?_;refine gE1 ?_;rfl
theorem asi {ts:LL} {m r:Nat} (ht:awt ts m r) (hp:Pos (aae ts) m) (hm:m <= 5) (hml:m <= ts.length) (j:Nat):∀ (a:List Rat) (e:Nat), j <= m -> Nl j a -> Cb e a -> T.sgn (aae ts) j (dec j a) ≠ 0 ->
  sB r j e < 4398046511104 -> iB r j e < 4398046511104 -> ∃ L,FnC prog 277 [aa5 ts,nA a] (nA L) /\ Nl j L /\ Cb (iB r j e) L /\ dec j L = T.inv (aae ts) j (dec j a):=by
 induction j using Nat.strongRecOn
 rename_i j ih;intro a e hj ha ca h0 hs hi;have hse:=auy r j e;have cs:=ca.sh ha;have hsn:=ahs j (dec j a);have hsd:=aa4 j (dec j a);have hle:=baa r j e;obtain ⟨s,hsa⟩:∃ s,sh j (dec j a) = s:=⟨_,rfl⟩
 rcases ah0 hsn with h | h | ⟨i,hij,h⟩
 ·exfalso;have h1:=List.length_eq_zero_iff.1 h;rw [h1,ae7] at hsd;rw [<- hsd,T.sgn_zero] at h0;exact h0 rfl
 ·obtain ⟨q, hq⟩:=List.length_eq_one_iff.1 h;rw [hq,aib] at hsd;rw [<- hsd,T.sgn_ofQ] at h0;have q0:q ≠ 0:=by rintro rfl; exact h0 rfl
  refine ⟨[1 / q],bn6 oz ha ca oz hq q0,.inr ⟨0,by omega,rfl⟩,(Cb.inv1 (hq ▸ cs) q0).mono hle,?_⟩;rw [<- hsd,<- aib j q];exact akt (aae ts) (i:=0) (s:=[q]) (L:=[1 / q]) (by simp) (by simp) rfl oz
 ·have hz:=a78 h hij;rw [hsa] at h cs hsd hsn hz;obtain ⟨nn,dn,cn⟩:=ald ht oz h cs;have hsl:s.length <= 2 ^ (i + 1):=by omega
  have b1:sB r i (4 * e + 3 * eB r i + r + 1) <= sB r j e:=at7 r e hij;have b2:=auy r i (4 * e + 3 * eB r i + r + 1);have b3:iB r (i + 1) e <= iB r j e:=bg6 r e hij;have b4:iB r (i + 1) e = e + iB r i (4 * e + 3 * eB r i + r + 1) + eB r (i + 1):=rfl;have lx:(s.take (2 ^ i)).length = 2 ^ i:=ac7 h;have ly:(s.drop (2 ^ i)).length = 2 ^ i:=adc h;have hpi:2 ^ i <= 2 ^ (i + 1):=Nat.pow_le_pow_right oz oz;rw [<- hsd] at h0 ⊢
  by_cases hN:T.sgn (aae ts) i (dec i (al5 ts i s)) = 0
  ·have hS:=aps (aae ts) i (fun k hk=>hp k oz)
   have hx:T.sgn (aae ts) i (dec i (acx (s.take (2 ^ i)) (s.take (2 ^ i)))) ≠ 0:=by
    rw [ac6];rw [al1 (aae ts) hsl hij] at h0;rw [dn] at hN;exact a15 hS (hp i oz) (x:=dec i (s.take (2 ^ i))) (y:=dec i (s.drop (2 ^ i))) h0 hN
   have np:Nl i (acx (s.take (2 ^ i)) (s.take (2 ^ i))):=.inr ⟨i,le_refl _,by rw [abp]; omega⟩;have b5:=aki r i (e:=e + e + 1) (f:=4 * e + 3 * eB r i + r + 1) oz;have b6:=auk r i (e:=e + e + 1) (f:=4 * e + 3 * eB r i + r + 1) oz;obtain ⟨L,k1,k2,k3,k4⟩:=ih i oz _ _ oz np (cs.take.plus cs.take) hx oz oz;refine ⟨L,bnc ht hm hml oz ha ca oz hsa oz h oz hN k1,k2.mono oz,k3.mono oz,?_⟩;refine akt (aae ts) (i:=i + 1) hsl (le_trans k2.le hpi) ?_ hij;rw [bop (aae ts) hz (by rw [<- dn]; exact hN),afq k2.le,k4,ac6];rfl
  ·obtain ⟨L, k1, k2, k3, k4⟩:=ih i oz _ _ oz nn cn hN oz oz;have nj:Nl (i + 1) (afm (s.take (2 ^ i)) (ab1 (s.drop (2 ^ i))) (2 ^ i)):=.inr ⟨i + 1,le_refl _,by rw [ag4 oz (by rw [ab4]; omega),Nat.pow_succ]; omega⟩;have s1:=adt ts m ht.1 (i + 1) (i + 1) _ _ oz (le_refl _) nj (k2.mono oz);have c1:=Cb.mul ht (k:=i + 1) (show i + 1 <= m by omega) (le_refl _) nj (k2.mono oz) (bdr cs) k3;refine ⟨_,bou ht hm hml oz ha ca oz hsa oz h oz hN k1 k2 k3 oz,s1.1.mono hij,c1.mono oz,?_⟩;refine akt (aae ts) (i:=i + 1) hsl s1.1.le ?_ hij;rw [bm2 (aae ts) hz (by rw [<- dn]; exact hN),s1.2,am0 oz,afq k2.le,mul_low,aeo,k4,dn];rfl
theorem bky {ts:LL} {r e f:Nat} (tw:Tw ts r) {a b:List Rat} (ha:Nm ts.length e a) (hb:Nm ts.length f b) (he:e <= 4398046511103) (hf:f <= 4398046511103):FnC prog 163 [aa5 ts, .lst 1 [nA a, nA b]] (.v .nilIface):=by
 have hck:=ac9 (ts.map (List.map rt)) r tw.tr [a.map rt,b.map rt] (am3 (asm ha he) (asm hb hf)) (by simp);have hc0:abh (ts.map (List.map rt)) [a.map rt,b.map rt] = 0:=ajb tw ha hb;rw [hc0,ad2] at hck;rw [show [nA a,nA b] = [a.map rt,b.map rt].map nR by simp [agt]];exact hck
theorem bfz {ts:LL} {r f j:Nat} (tw:Tw ts r) {b:List Rat} (hb:Nm ts.length f b) (hj:j <= ts.length) (nb:Nl j b) (h0:T.sgn (aae ts) ts.length (dec ts.length b) ≠ 0) (hf:f <= lm ts.length) (hi:iB r j f < 4398046511104) :
  ∃ L,FnC prog 277 [aa5 ts,nA b] (nA L) /\ Nl ts.length L /\ Cb (iB r j f) L /\ dec ts.length L = T.inv (aae ts) ts.length (dec ts.length b):=by
 rw [al1 (aae ts) nb.le hj] at h0;obtain ⟨L,k1,k2,k3,k4⟩:=asi tw.ok tw.pos tw.five (le_refl _) j b f hj nb hb.cb h0 (arh hj tw.three tw.le hf) hi;exact ⟨L,k1,k2.mono hj,k3,akt (aae ts) nb.le k2.le k4 hj⟩
theorem a90 {ts:LL} {r e f j:Nat} (tw:Tw ts r) {a b:List Rat} (ha:Nm ts.length e a) (hb:Nm ts.length f b) (hj:j <= ts.length) (nb:Nl j b) (h0:T.sgn (aae ts) ts.length (dec ts.length b) ≠ 0) (hf:f <= lm ts.length) (he:e + iB r j f + eB r ts.length <= 200000000000) :
  FnC prog 198 [aa5 ts,nA a,nA b] (.tup [nA (sh ts.length (T.mul (aae ts) ts.length (dec ts.length a) (T.inv (aae ts) ts.length (dec ts.length b)))),.v .nilIface]):=by
 have hlm:=ajn ts.length;have h5:=tw.five;have h3:=tw.three;have hfe:=baa r j f;have hsB:=arh (le_refl ts.length) h3 tw.le hf;have hsg:=aey ts ts.length r tw.ok h5 (le_refl _) ts.length _ _ (le_refl _) hb.nl hb.cb hsB;obtain ⟨L,k1,k2,k3,k4⟩:=bfz tw hb hj nb h0 hf oz;have hti:=aee ts ts.length r tw.ok h5 (le_refl _) ts.length ts.length _ _ _ _ (le_refl _) (le_refl _) ha.nl k2 ha.cb k3 oz;have s1:=adt ts ts.length tw.ok.1 ts.length ts.length _ _ (le_refl _) (le_refl _) ha.nl k2;have c1:=Cb.mul tw.ok (k:=ts.length) (le_refl _) (le_refl _) ha.nl k2 ha.cb k3;have hsh:=acc _ h5 s1.1 (fun q hq=>c1.qs oz hq);rw [s1.2,k4] at hsh;refine gF0 func198 ?_;refine gc (bky tw ha hb oz oz) ?_;refine gC (fun ht15=>?_) (fun ht15=>?_) (st1:=(3,0))
 ·cases ht15
 ·refine gc hsg ?_;refine gC (fun ht20=>?_) (fun ht20=>?_) (st1:=(5,0))
  ·exact absurd ht20 (by simp only [aaa,beq_iff_eq]; omega)
  ·refine gc k1 ?_;refine gc hti ?_;refine gc hsh ?_;refine gD ?_;refine gE2 ?_;rfl
theorem ayh {ts:LL} {r e f j:Nat} (tw:Tw ts r) {a b:List Rat} (ha:Nm ts.length e a) (hb:Nm ts.length f b) (hj:j <= ts.length) (nb:Nl j b) (h0:T.sgn (aae ts) ts.length (dec ts.length b) ≠ 0) (hf:f <= lm ts.length) (he:e + iB r j f + eB r ts.length <= 200000000000) :
  Nm ts.length (e + iB r j f + eB r ts.length) (sh ts.length (T.mul (aae ts) ts.length (dec ts.length a) (T.inv (aae ts) ts.length (dec ts.length b)))):=by
 obtain ⟨L,k1,k2,k3,k4⟩:=bfz tw hb hj nb h0 hf oz;have s1:=adt ts ts.length tw.ok.1 ts.length ts.length _ _ (le_refl _) (le_refl _) ha.nl k2;have c1:=Cb.mul tw.ok (k:=ts.length) (le_refl _) (le_refl _) ha.nl k2 ha.cb k3;refine ⟨tw.five,ahs _ _,?_⟩;rw [<- k4,<- s1.2];exact c1.sh s1.1
end Go.Lw
namespace Go.Lw
open Go.Proofs
def adb (k:Nat):List Rat:=(List.replicate (2 ^ (k + 1)) 0).set (2 ^ k) 1
def ab2 (ts:LL) (a:List Rat):LL:=ts ++ [aay a (2 ^ ts.length)]
theorem a31 (k:Nat):BlkSub (.row 3 ((List.replicate (2 ^ (k + 1)) (.agg [.v (.bool false), .v (.slice none 0 0), .v (.slice none 0 0)])).set (2 ^ k) (qA 1))) (.row 3 ((adb k).map qA)):=by
 unfold adb;refine .row ?_ ?_
 ·simp
 ·intro i e e' he he';rw [map_set,map_replicate] at he';rw [List.getElem?_set] at he he';split at he
  ·rename_i h1;rw [if_pos h1] at he';split at he
   ·rename_i h2;rw [length_replicate] at h2;rw [length_replicate,if_pos h2] at he';cases he; cases he'
    exact aea.refl (a8r 1)
   ·cases he
  ·rename_i h1;rw [if_neg h1] at he';rw [List.getElem?_replicate] at he he';split at he
   ·rename_i h2;rw [if_pos h2] at he';cases he; cases he'
    exact qZ
   ·cases he
theorem anr (k:Nat):(adb k).length = 2 ^ (k + 1):=by simp [adb]
theorem a24 {k:Nat} (hk:k <= 5):IntKind.i64.wrap ((2:Int) * 2 ^ (min (k:Int).toNat IntKind.i64.bits)) = ((2 ^ (k + 1):Nat):Int):=by
 have h:k = 0 \/ k = 1 \/ k = 2 \/ k = 3 \/ k = 4 \/ k = 5:=by omega
 rcases h with rfl | rfl | rfl | rfl | rfl | rfl <;> rfl
theorem auo (d:Nat) (hd:Nat.blt d 1000 = true) (k:Nat) (hk:k <= 5):Con prog 195 [i64 k] [] (.ms d 3 0 (2 ^ (k + 1))) [(d, some (.row 3 ((adb k).map qA)))]:=by
 have hp:2 ^ (k + 1) <= 64:=aax (b:=6) oz;have hp2:2 ^ k < 2 ^ (k + 1):=Nat.pow_lt_pow_right oz oz;have hp0:=Nat.two_pow_pos k;refine gF func195 (fun k z h=>by cases h) ?_;refine gs (ae3 (.const _) (.tmp rfl) oz (a24 hk) rfl) ?_;refine gs (agr (.tmp rfl) T46 rfl T29 rfl rfl oz (by dsimp only; omega) rfl) ?_;refine gs (ae3 (.const _) (.tmp rfl) oz (agj oz) rfl) ?_;refine gc (ac1 1 oz) ?_;refine gs (aas (n:=2 ^ k) (.tmp rfl) (.tmp rfl) T46 rfl T29 rfl oz oz rfl) ?_;refine gs (abb (.tmp rfl) rfl (by rw [List.getElem?_replicate,if_pos oz]) rfl (.tmp rfl) rfl rfl T29 rfl rfl) ?_;refine gD ?_ (3,0);refine gW (Wk.of (sl:=[(3,some (.ms 6 3 0 (2 ^ (k + 1))))]) (hp:=[(6,some (.row 3 ((adb k).map qA)))]) (.cons rfl (Sub.of (congrArg (AV.ms 6 3 0) (toNat_natCast _))) .nil) (.cons rfl (a31 k) .nil)) ?_;refine gR ?_;exact Fin.own1 rfl hd rfl
theorem aze (k:Nat) (hk:k <= 5):FnC prog 195 [i64 k] (nA (adb k)):=by
 have h:=Con.freeze (by rw [length_map,anr]; omega) (auo 0 rfl k hk);rw [drop_zero,take_of_length_le (by rw [length_map,anr]; exact le_refl _)] at h;exact h
theorem bjy {ts:LL} {r e:Nat} (tw:Tw ts r) {a:List Rat} (ha:Nm ts.length e a) (he:e <= 4398046511103):FnC prog 163 [aa5 ts, .lst 1 [nA a]] (.v .nilIface):=by
 have hx:=asm ha he;have hck:=ac9 (ts.map (List.map rt)) r tw.tr [a.map rt] (fun x h=>by rw [List.mem_singleton.1 h]; exact ⟨hx.ok,hx.len⟩) (by simp);have hc0:abh (ts.map (List.map rt)) [a.map rt] = 0:=arg tw ha;rw [hc0,ad2] at hck;rw [show [nA a] = [a.map rt].map nR by simp [agt]];exact hck
theorem bkz {ts:LL} {r e:Nat} (tw:Tw ts r) {a:List Rat} (ha:Nm ts.length e a) (he:e <= 4398046511103):FnC prog 193 [aa5 ts, nA a] (.tup [nA (aay a (2 ^ ts.length)), .v .nilIface]):=by
 have h5:=tw.five;have hl:=ha.nl.le;have hp:2 ^ ts.length <= 32:=aax (b:=5) oz;have qa:∀ q ∈ a,Qs q:=fun q hq=>ha.cb.qs oz hq
 refine gF0 func193 ?_;refine gc (bjy tw ha he) ?_;refine gC (fun ht12=>?_) (fun ht12=>?_) (st1:=(3,0))
 ·cases ht12
 ·refine gc (aih a qa oz) ?_;refine gl ?_;refine gs (ae3 (.const _) (.tmp rfl) oz (agj oz) rfl) ?_;refine gc (aj3 a (2 ^ ts.length) hl oz) ?_;refine gD ?_;refine gE2 ?_;rfl
theorem ayz {ts:LL} {r e:Nat} (tw:Tw ts r) {a:List Rat} (ha:Nm ts.length e a) (he:e <= lm ts.length) (hs:0 <= T.sgn (aae ts) ts.length (dec ts.length a)) :
  FnC prog 87 [aa5 ts,nA a] (.tup [aa5 (ab2 ts a),nA (adb ts.length),.v .nilIface]):=by
 have h3:=tw.three;have h5:=tw.five;have hlm:=ajn ts.length;have hl:=ha.nl.le;have nw:Nl ts.length (aay a (2 ^ ts.length)):=.inr ⟨_,le_refl _,abm hl⟩;have hsg:=aey ts ts.length r tw.ok h5 (le_refl _) ts.length _ _ (le_refl _) nw ha.cb.wide (arh (le_refl ts.length) h3 tw.le he);rw [anh] at hsg;have hqs:=tw.rb.qs tw.le;refine gF0 func87 ?_;refine gc (bkz tw ha oz) ?_;refine gC (fun ht18=>?_) (fun ht18=>?_) (st1:=(3,0))
 ·cases ht18
 ·refine gc hsg ?_;refine gC (fun ht23=>?_) (fun ht23=>?_) (st1:=(5,0))
  ·exact absurd ht23 (by simp only [aaa,decide_eq_true_eq]; omega)
  ·refine gl ?_;refine gC (fun ht30=>?_) (fun ht30=>?_) (st1:=(7,0))
   ·exact absurd ht30 (by simp only [aaa,decide_eq_true_eq]; omega)
   ·refine gl ?_;refine gW (Wk.virt 900 1 rfl) ?_;refine gL1 [2,4,7,9,38,39] [2,4] (fun (i:Nat)=>[(40,some (i64 i))]) (fun i=>[(9,some (.box [.ms 900 1 0 i])),(900,some (.row 1 ((ts.take i).map nA)))]) (fun i=>i <= ts.length) (fun i=>ts.length - i) 0 (zero_le _) ?_ (h2:=(.cons rfl (BlkSub.boxL (.cons (.nilMs _ _ _) .nil) rfl) (.k .nil)));rintro i hi K1 hK1;refine gC (fun ht41=>?_) (fun ht41=>?_)
    ·have hin:=aa9 ht41;obtain ⟨d,hd⟩:=ab5 hin
     have hdl:d.length <= 32:=by
      have h9:=tw.len i hin;rw [aah hd] at h9;have:2 ^ i <= 32:=aax (b:=5) oz;omega
     refine gi (aag hd) ?_;refine gc (aih d (hqs d (mem_of_getElem? hd)) oz) ?_;refine gs (aa0 (.tmp rfl) rfl (by rw [length_map,length_take]; omega) (.tmp rfl) T34 rfl T46 rfl rfl (by simp only [length_cons,length_nil]; omega) rfl rfl) ?_;refine gD ?_ (13,0);refine gW (Wk.of (sl:=[(2,some (.ptr 2 0)),(4,some (.ptr 4 0)),(7,some (nA (aay a (2 ^ ts.length)))),(9,some (.ptr 9 0)),(38,some (.lst 1 (ts.map nA))),(39,some (i64 ts.length)),(40,some (i64 i))]) (hp:=[(2,some (.box [.lst 1 (ts.map nA)])),(4,some (.box [.v (.slice none 0 0)])),(9,some (.box [.ms 49 1 0 (i + 1)])),(49,some (.row 1 ((ts.take (i + 1)).map nA)))]) aa6 (.k (.k (.k (.cons rfl (BlkSub.of (by rw [aaj hd,map_append]; rfl)) .nil))))) ?_ (13,0)
     refine gW (Wk.rekey (k:=49) (d:=900) rfl rfl) ?_;refine ga aat ?_;exact gK1 hK1 (i + 1) hin
    ·have hin:=aan hi ht41;subst hin;refine gs (aa0 (.tmp rfl) rfl (by rw [length_map,length_take]; omega) (.tmp rfl) T34 rfl T46 rfl rfl (by simp only [length_cons,length_nil]; omega) rfl rfl) ?_ (15,0);refine gW ((Wk.freeze (k:=56) rfl).trans <| Wk.of (sl:=[(2,some (.ptr 2 0)),(4,some (.ptr 4 0)),(9,some (.ptr 9 0))]) (hp:=[(2,some (.box [.lst 1 (ts.map nA)])),(4,some (.box [.v (.slice none 0 0)])),(9,some (.box [.lst 1 ((ab2 ts a).map nA)]))]) aa6 (.k (.k (.cons rfl (BlkSub.boxL (.cons (Sub.of (by rw [abq (by simp)]; unfold ab2; simp)) .nil) rfl) .nil)))) ?_;refine gl ?_;refine gc (aze ts.length oz) ?_;refine gD ?_;refine gE3 ?_;rfl
theorem aoo {ts:LL} {r:Nat} (tw:Tw ts r):FnC prog 80 [aa5 ts] (aa5 ts):=by
 have h3:=tw.three;have hqs:=tw.rb.qs tw.le;refine gF0 func80 ?_;refine gl ?_;refine gW (Wk.virt 900 1 rfl) ?_;refine gL1 [2,3,10,11] [2] (fun (i:Nat)=>[(12,some (i64 i))]) (fun i=>[(3,some (.box [.ms 900 1 0 i])),(900,some (.row 1 ((ts.take i).map nA)))]) (fun i=>i <= ts.length) (fun i=>ts.length - i) 0 (zero_le _) ?_ (h2:=(.cons rfl (BlkSub.boxL (.cons (.nilMs _ _ _) .nil) rfl) (.k .nil)));rintro i hi K1 hK1;refine gC (fun ht13=>?_) (fun ht13=>?_) (st2:=(13,0))
 ·have hin:=aa9 ht13;obtain ⟨d,hd⟩:=ab5 hin
  have hdl:d.length <= 32:=by
   have h9:=tw.len i hin;rw [aah hd] at h9;have:2 ^ i <= 32:=aax (b:=5) oz;omega
  have hdq:=hqs d (mem_of_getElem? hd);refine gi (aag hd) ?_;refine gl ?_;refine gW (Wk.virt 901 3 rfl) ?_;refine gL1 [2,3,10,11,12,16,17] [2,3,900] (fun (j:Nat)=>[(6,some (.ms 901 3 0 j)),(18,some (i64 j))]) (fun j=>[(901,some (.row 3 ((d.take j).map qA)))]) (fun j=>j <= d.length) (fun j=>d.length - j) 0 (zero_le _) ?_;rintro j hj K2 hK2;refine gC (fun ht19=>?_) (fun ht19=>?_) (st2:=(11,0))
  ·have hjn:=aa9 ht19;obtain ⟨q,hq⟩:=ab5 hjn;have hadd:=adq (rt q) (rt 0) (hdq q (mem_of_getElem? hq)).ok Qs.zero.ok;rw [bck,agm] at hadd;refine gi (aag hq) ?_;refine gc (Con.subA (.cons (.refl _) (.cons ai1 .nil)) hadd) ?_;refine gs (aa0 (.tmp rfl) rfl (by rw [length_map,length_take]; omega) (.tmp rfl) T46 rfl T29 rfl rfl (by simp only [length_cons,length_nil]; omega) rfl rfl) ?_ (10,0);refine gW (Wk.of (sl:=[(2,some (.ptr 2 0)),(3,some (.ptr 3 0)),(10,some (.lst 1 (ts.map nA))),(11,some (i64 ts.length)),(12,some (i64 i)),(6,some (.ms 27 3 0 (j + 1))),(16,some (nA d)),(17,some (i64 d.length)),(18,some (i64 j))]) (hp:=[(2,some (.box [.v (.slice none 0 0)])),(3,some (.box [.ms 900 1 0 i])),(900,some (.row 1 ((ts.take i).map nA))),(27,some (.row 3 ((d.take (j + 1)).map qA)))]) aa6 (.k (.k (.k (.cons rfl (BlkSub.of (by rw [aaj hq,map_append]; rfl)) .nil))))) ?_ (10,0)
   refine gW (Wk.rekey (k:=27) (d:=901) rfl rfl) ?_;refine ga aat ?_;exact gK1 hK2 (j + 1) hjn
  ·have hjn:=aan hj ht19;subst hjn;refine gW ((Wk.freeze (k:=901) rfl).trans <| Wk.of (sl:=[(2,some (.ptr 2 0)),(3,some (.ptr 3 0)),(10,some (.lst 1 (ts.map nA))),(11,some (i64 ts.length)),(12,some (i64 i)),(6,some (nA d))]) (hp:=[(2,some (.box [.v (.slice none 0 0)])),(3,some (.box [.ms 900 1 0 i])),(900,some (.row 1 ((ts.take i).map nA)))]) (.k (.k (.k (.k (.k (.cons rfl (Sub.of (by rw [abq (by simp)]; simp [nA])) .nil)))))) (.k (.k (.k .nil)))) ?_
   refine gs (aa0 (.tmp rfl) rfl (by rw [length_map,length_take]; omega) (.tmp rfl) T34 rfl T46 rfl rfl (by simp only [length_cons,length_nil]; omega) rfl rfl) ?_ (12,0);refine gW (Wk.of (sl:=[(2,some (.ptr 2 0)),(3,some (.ptr 3 0)),(10,some (.lst 1 (ts.map nA))),(11,some (i64 ts.length)),(12,some (i64 i))]) (hp:=[(2,some (.box [.v (.slice none 0 0)])),(3,some (.box [.ms 33 1 0 (i + 1)])),(33,some (.row 1 ((ts.take (i + 1)).map nA)))]) aa6 (.k (.k (.cons rfl (BlkSub.of (by rw [aaj hd,map_append]; rfl)) .nil)))) ?_ (12,0);refine gW (Wk.rekey (k:=33) (d:=900) rfl rfl) ?_;refine ga aat ?_;exact gK1 hK1 (i + 1) hin
 ·have hin:=aan hi ht13;subst hin;refine gW ((Wk.freeze (k:=900) rfl).trans <| Wk.of (sl:=[(2,some (.ptr 2 0)),(3,some (.ptr 3 0))]) (hp:=[(2,some (.box [.v (.slice none 0 0)])),(3,some (.box [.lst 1 (ts.map nA)]))]) aa6 (.k (.cons rfl (BlkSub.boxL (.cons (Sub.of (by rw [abq (by simp)]; simp)) .nil) rfl) .nil))) ?_;refine gE1 ?_;rfl
end Go.Lw
namespace Go.Lw
open Go.Proofs
abbrev fdC (l:Li) (known driven:List Bool) (r:List AV):List AV:=l.av.cells ++ (.lst 1 (known.map bl) :: .lst 1 (driven.map bl) :: r)
theorem a6r (j:Jt) (b:Int):FnC prog 340 [j.av, i64 b] (i64 (ajv j b)):=by
 refine gF0 func340 ?_;refine gC (fun ht6=>?_) (fun ht6=>?_)
 ·have h1:b = j.a:=aco ht6;refine gE1 ?_;unfold ajv; rw [if_pos h1]
 ·have h1:b ≠ j.a:=ac5 ht6;refine gC (fun ht12=>?_) (fun ht12=>?_)
  ·have h2:b = j.b:=aco ht12;refine gE1 ?_;unfold ajv; rw [if_neg h1,if_pos h2]
  ·have h2:b ≠ j.b:=ac5 ht12;refine gE1 ?_;unfold ajv; rw [if_neg h1,if_neg h2]; rfl
theorem a51 (j:Jt) (kind body:Int) (f:FuncId) (pre caps:List AV) (p:Int -> Bool) (hp:0 <= ajv j body -> FnC prog f (pre ++ [i64 (ajv j body)] ++ caps) (bl (p (ajv j body)))) :
  FnC prog 339 [j.av,.iptr [i64 body],.iptr [i64 kind],.iptr [.cl f pre caps]] (bl (bpb kind body p j)):=by
 refine gF0 func339 ?_;refine gc (a6r j body) ?_;refine gcG (fun h=>(hp (brl h))) ?_;refine gE1 ?_;exact congrArg bl bog
theorem aox (bs:List Jt) (hl:bs.length <= 281474976710656) (f:FuncId) (pre caps:List AV) (ok:Nat -> Bool)
  (hf:∀ (i:Nat) (b:Jt),bs[i]? = some b -> (∀ j,j < i -> ok j = true) -> FnC prog f (pre ++ [b.av] ++ caps) (bl (!ok i))) :
  FnC prog 338 [.lst 7 (bs.map Jt.av),.cl f pre caps] (i64 (ixI (act bs.length ok))):=by
 refine gF0 func338 ?_;refine gl ?_;refine gL1 [0,1,7] [] (fun (i:Nat)=>[(8,some (i64 i))]) (fun _=>[]) (fun i=>i <= bs.length /\ ∀ j,j < i -> ok j = true) (fun i=>bs.length - i) 0 ⟨zero_le _,fun j h=>by omega⟩ ?_;rintro i ⟨hi,hj⟩ K1 hK1;refine gC (fun ht9=>?_) (fun ht9=>?_)
 ·have hin:=aa9 ht9;obtain ⟨b,hb⟩:=ab5 hin;refine gi (aag hb) ?_;refine gc (hf i b hb hj) ?_;refine gC (fun ht16=>?_) (fun ht16=>?_)
  ·have h2:=af8 ht16;refine gE1 ?_;rw [ac2 hin hj h2]; rfl
  ·have h2:=af1 ht16;refine ga aat ?_;exact gK1 hK1 (i + 1) ⟨hin,fun j h9=>by rcases lt_or_ge j i with g | g; exact hj j g; (have:j = i:=by omega); subst this; exact h2⟩
 ·have hin:=aan hi ht9;subst hin;refine gE1 ?_;rw [acg hj]; rfl
theorem aym (l:Li) (hl:l.ok) (hli:liE l = 0) (Fd:List AV) (kind body:Int) (f:FuncId) (pre caps:List AV) (p:Int -> Bool)
  (hp:∀ o:Int,0 <= o -> o < l.bodies.length -> FnC prog f (pre ++ [i64 o] ++ caps) (bl (p o))) :
  FnC prog 321 [.iptr (l.av.cells ++ Fd),i64 kind,i64 body,.cl f pre caps] (i64 (gJ l kind body p)):=by
 refine gF0 func321 ?_ (1,0);refine gW ((Wk.freezeB (k:=7) rfl rfl).trans <| (Wk.freezeB (k:=5) rfl rfl).trans <| (Wk.freezeB (k:=6) rfl rfl).trans <| Wk.o (sl:=[(0,some (.iptr (l.av.cells ++ Fd))),(5,some (.iptr [i64 kind])),(6,some (.iptr [i64 body])),(7,some (.iptr [.cl f pre caps]))]) (hp:=[])) ?_;refine gc (Con.subA (.cons (.refl _) (.cons (bav rfl) .nil)) (aox l.joints hl.lj 339 [] [.iptr [i64 body],.iptr [i64 kind],.iptr [.cl f pre caps]] (fun i=>!bpb kind body p (l.joints.getD i default)) (fun i b hb hj=>by rw [Bool.not_not,aah hb]; exact a51 b kind body f pre caps p (fun h=>hp _ h (bb5 hli hb body))))) ?_;refine gE1 ?_;rfl
theorem a1g (l:Li) (known driven:List Bool) (r:List AV) (b:Int) (h0:0 <= b) (h1:b < known.length):FnC prog 336 [.iptr (fdC l known driven r), i64 b] (bl (kn known b)):=by
 obtain ⟨v,hv⟩:∃ v,known[b.toNat]? = some v:=ab5 oz;have ev:kn known b = v:=aah hv;refine gF0 func336 ?_;refine gi (afj (n:=b.toNat) oz hv) ?_;refine gE1 ?_;rw [ev]
theorem ao9 (l:Li) (hl:l.ok) (hli:liE l = 0) (known driven:List Bool) (hk:known.length = l.bodies.length) (r:List AV) (kind body:Int) :
  FnC prog 319 [.iptr (fdC l known driven r),i64 kind,i64 body] (i64 (gJ l kind body (kn known))):=by
 refine gF0 func319 ?_;refine gc (aym l hl hli _ kind body 336 [.iptr (fdC l known driven r)] [] (kn known) (fun o h0 h1=>a1g l known driven r o h0 oz)) ?_;refine gE1 ?_;rfl
theorem a8b (o j:Int):FnC prog 322 [i64 o, .iptr [i64 j]] (bl (decide (o = j))):=by
 refine gF0 func322 ?_;refine gE1 ?_;exact congrArg bl aop
theorem bfa (l:Li) (known driven:List Bool) (hd:driven.length = known.length) (r:List AV) (b:Int) (h0:0 <= b) (h1:b < known.length) :
  FnC prog 323 [.iptr (fdC l known driven r),i64 b] (bl (!kn known b && !kn driven b)):=by
 obtain ⟨v,hv⟩:∃ v,known[b.toNat]? = some v:=ab5 oz;have ev:kn known b = v:=aah hv;obtain ⟨u,hu⟩:∃ u,driven[b.toNat]? = some u:=ab5 oz;have eu:kn driven b = u:=aah hu;refine gF0 func323 ?_;refine gi (afj (n:=b.toNat) oz hv) ?_;refine giG (fun _=>(afj (n:=b.toNat) oz hu)) ?_;refine gE1 ?_;rw [ev,eu]; exact congrArg bl (aes _ _)
end Go.Lw
namespace Go.Lw
open Go.Proofs
theorem a5a (l:Li) (hl:l.ok) (hli:liE l = 0) (known driven:List Bool) (hk:known.length = l.bodies.length) (r:List AV) :
  FnC prog 295 [.iptr (fdC l known driven r)] (.tup [((ace l known).getD default).av,bl (ace l known).isSome]):=by
 have hld:=hl.ld;refine gF0 func295 ?_;refine gl ?_;refine gL1 [0,2,11,12] [2] (fun (i:Nat)=>[(13,some (i64 i))]) (fun _=>[]) (fun i=>i <= l.drivers.length /\ ∀ j,j < i -> (!ajz l known j) = true) (fun i=>l.drivers.length - i) 0 ⟨zero_le _,fun j h=>by omega⟩ ?_;rintro i ⟨hi,hj⟩ K1 hK1;refine gC (fun ht14=>?_) (fun ht14=>?_)
 ·have hin:=aa9 ht14;obtain ⟨d,hd⟩:=ab5 hin;have hdd:l.drivers.getD i default = d:=aah hd;have hb:=aiz (a4n hli hd);obtain ⟨v,hv⟩:∃ v,known[d.body.toNat]? = some v:=ab5 oz;have ev:kn known d.body = v:=aah hv;have ej:gJ l 0 d.body (kn known) = abu l 0 d.body known:=bks hli (fun o _ _=>rfl);refine gi (aag hd) ?_;refine gi (afj (n:=d.body.toNat) oz hv) ?_;refine gD ?_;refine gC (fun ht25=>?_) (fun ht25=>?_)
  ·have h2 : ajz l known i = false := by unfold ajz; rw [hdd, ev, ht25]; rfl
   refine ga aat ?_;exact gK1 hK1 (i + 1) ⟨hin,fun k h9=>by rcases lt_or_ge k i with g | g; exact hj k g; (have:k = i:=by omega); subst this; rw [h2]; rfl⟩
  ·have hv0:v = false:=ht25;refine gc (show FnC _ _ _ (i64 (abu l 0 d.body known)) by rw [<- ej]; exact ao9 l hl hli known driven hk r 0 d.body) ?_;refine gC (fun ht31=>?_) (fun ht31=>?_)
   ·have h2 : ajz l known i = true := by unfold ajz; rw [hdd, ev, hv0, decide_eq_true (boq ht31)]; rfl
    have hg:ace l known = some ⟨0,[d.body],[abu l 0 d.body known],i⟩:=by unfold ace; rw [ac2 hin hj (by rw [h2]; rfl),<- hdd]; rfl
    refine gE2 ?_;rw [hg]; rfl
   ·have h2 : ajz l known i = false := by unfold ajz; rw [hdd, decide_eq_false (blh ht31), Bool.and_false]
    refine ga aat ?_;exact gK1 hK1 (i + 1) ⟨hin,fun k h9=>by rcases lt_or_ge k i with g | g; exact hj k g; (have:k = i:=by omega); subst this; rw [h2]; rfl⟩
 ·have hin:=aan hi ht14;subst hin;have hg:ace l known = none:=by unfold ace; rw [acg hj]; rfl
  refine gR ?_;exact Fin.sub Fin.pure (by rw [hg]; exact Sub.tup (.cons an8 (.cons (.refl _) .nil)))
theorem a7x (l:Li) (hli:liE l = 0) (known:List Bool) (hk:known.length = l.bodies.length) (r:List AV) (b:Nat) (h1:b < l.bodies.length) :
  FnC prog 323 [.iptr (fdC l known (aa2 l) r),i64 b] (bl (ah2 l known b)):=by
 have h:=bfa l known (aa2 l) (by rw [aij,hk]) r b oz oz;rw [a98 hli oz] at h;exact h
theorem a3y (l:Li) (hl:l.ok) (hli:liE l = 0) (known:List Bool) (hk:known.length = l.bodies.length) (r:List AV) (kind body:Int) :
  FnC prog 319 [.iptr (fdC l known (aa2 l) r),i64 kind,i64 body] (i64 (abu l kind body known)):=by
 have h:=ao9 l hl hli known (aa2 l) hk r kind body;rw [bks hli (fun o _ _=>rfl)] at h;exact h
theorem a44 (l:Li) (hl:l.ok) (hli:liE l = 0) (known:List Bool) (hk:known.length = l.bodies.length) (r:List AV) :
  FnC prog 297 [.iptr (fdC l known (aa2 l) r)] (.tup [((ada l known).getD default).av,bl (ada l known).isSome]):=by
 have h8:=(ab8 hli).2.2.2.1;refine gF0 func297 ?_;refine gl ?_;refine gL1 [0,2,12,13] [2] (fun (i:Nat)=>[(14,some (i64 i))]) (fun _=>[]) (fun i=>i <= l.bodies.length /\ ∀ j,j < i -> (!aj0 l known j) = true) (fun i=>l.bodies.length - i) 0 ⟨zero_le _,fun j h=>by omega⟩ ?_;rintro i ⟨hi,hj⟩ K1 hK1;refine gC (fun ht15=>?_) (fun ht15=>?_)
 ·have hin:=aa9 ht15;refine gc (a7x l hli known hk r i hin) ?_;refine gC (fun ht20=>?_) (fun ht20=>?_)
  ·have h2 : aj0 l known i = false := by unfold aj0; rw [af8 ht20]; rfl
   refine ga aat ?_;exact gK1 hK1 (i + 1) ⟨hin,fun k h9=>by rcases lt_or_ge k i with g | g; exact hj k g; (have:k = i:=by omega); subst this; rw [h2]; rfl⟩
  ·have hf:=af1 ht20;refine gc (a3y l hl hli known hk r 0 i) ?_;refine gc (a3y l hl hli known hk r 1 i) ?_;refine gC (fun ht32=>?_) (fun ht32=>?_)
   ·have h2 : aj0 l known i = false := by unfold aj0; rw [bnw ht32, Bool.and_false]
    refine ga aat ?_;exact gK1 hK1 (i + 1) ⟨hin,fun k h9=>by rcases lt_or_ge k i with g | g; exact hj k g; (have:k = i:=by omega); subst this; rw [h2]; rfl⟩
   ·obtain ⟨p0, s0⟩:=bm8 ht32;have s1:=(agn (l:=l) (kind:=1) (body:=i) (oth:=known)).2;have h2:aj0 l known i = true:=by unfold aj0; rw [hf,decide_eq_true p0,decide_eq_true s0]; rfl
    obtain ⟨j,hjt⟩:∃ j,l.joints[(abu l 1 i known).toNat]? = some j:=ab5 oz;have hjd:l.joints.getD (abu l 1 i known).toNat default = j:=aah hjt;have hg:ada l known = some (sgG l known i):=by unfold ada; rw [ac2 hin hj (by rw [h2]; rfl),Option.map_some]
    refine gi (afj (n:=(abu l 1 i known).toNat) oz hjt) ?_;refine gC (fun ht43=>?_) (fun ht43=>?_)
    ·have hji:j.a = i:=aco ht43;refine gE2 ?_;rw [hg]; unfold sgG; rw [hjd]; simp only [Option.getD_some,if_pos hji]; rfl
    ·have hji:j.a ≠ i:=ac5 ht43;refine gE2 ?_;rw [hg]; unfold sgG; rw [hjd]; simp only [Option.getD_some,if_neg hji]; rfl
 ·have hin:=aan hi ht15;subst hin;have hg:ada l known = none:=by unfold ada; rw [acg hj]; rfl
  refine gR ?_;exact Fin.sub Fin.pure (by rw [hg]; exact Sub.tup (.cons an8 (.cons (.refl _) .nil)))
theorem a9p (Fd:List AV):FnC prog 320 [.iptr Fd] (.fn 337 [.iptr [.iptr Fd]]):=by
 refine gF0 func320 ?_ (1,0);refine gW ((Wk.freezeB (k:=1) rfl rfl).trans <| Wk.o (sl:=[(1,some (.iptr [.iptr Fd]))]) (hp:=[])) ?_;refine gE1 ?_;rfl
end Go.Lw
namespace Go.Lw
open Go.Proofs
def bpe:Code -> Option (Array Tmp × Code × Code)
  | .rangeFunc _ ps x y=>some (ps,x,y)
  | .seq a b=>match bpe a with
    | some r=>some r
    | none=>bpe b
  | .block _ c=>bpe c
  | _=>none
def rgD (n:Nat) (o:Option Code):LpD:=match o with
  | some c=>match bpe c with
    | some (ps,x,y)=>⟨ps,x,y,n⟩
    | none=>⟨#[],.skip,.skip,0⟩
  | none=>⟨#[],.skip,.skip,0⟩
def pb0 (D:LpD) (Fd:List AV) (h:Bool):Blk:=.loop D (match h with | true=>.done | false=>.ready) (match h with | true=>some .ret | false=>none) [(1,some (.iptr [.iptr Fd])),(2,some (.ptr 1001 0)),(3,some (.ptr 1002 0))]
def pb1 (g:Gr):Blk:=.box [i64 g.kind,.lst 1 (g.bodies.map i64),.lst 1 (g.joints.map i64),i64 g.driver]
def pb2 (h:Bool):Blk:=.box [bl h]
def aii (D:LpD) (Fd:List AV) (h:Bool) (g:Gr):Hp:=[(1000,some (pb0 D Fd h)),(1001,some (pb1 g)),(1002,some (pb2 h))]
theorem bg7 {D:LpD} {Fd:List AV} {h:Bool} {g:Gr} {k:Nat} {z:Blk} (hz:lk (aii D Fd h g) k = some z):1000 <= k:=by
 unfold aii at hz;simp only [aad] at hz;split at hz
 ·omega
 ·split at hz
  ·omega
  ·split at hz
   ·omega
   ·cases hz
theorem bep {D:LpD} {Fd:List AV} {s:AS} (hs:∀ k z, lk (aii D Fd false default) k = some z -> s.blk k = some z) :
  ∀ k ∈ (aii D Fd false default ++ an0 (aii D Fd false default)).map (·.1),k ∈ (aii D Fd false default).map (·.1) /\ lk (aii D Fd false default ++ an0 (aii D Fd false default)) k = s.blk k:=by
 intro k hk
 have hk':k = 1000 \/ k = 1001 \/ k = 1002:=by
  simp [aii,an0] at hk;omega
 rcases hk' with rfl | rfl | rfl
 ·exact ⟨by simp [aii],(hs _ _ rfl).symm⟩
 ·exact ⟨by simp [aii],(hs _ _ rfl).symm⟩
 ·exact ⟨by simp [aii],(hs _ _ rfl).symm⟩
theorem a8v {l:Li} {known:List Bool} {i k:Nat} (h:cond (ah2 l known i) (ah2 l known k) false = false):af2 l known i k = false:=by
 rw [aes] at h;unfold af2;rw [h]; rfl
theorem bpj {H R:Hp} {k:Nat} {z:Blk} (h:lk H k = some z):lk (H ++ R) k = some z:=by rw [agl,if_pos (acn h)]; exact h
theorem fr1 {a b:Bool} (h:cond a b false = true):a = true:=by cases a <;> simp_all
theorem fr2 {a b:Bool} (h:cond a b false = true):b = true:=by cases a <;> simp_all
theorem a56 (D:LpD) (l:Li) (hl:l.ok) (hli:liE l = 0) (known:List Bool) (hk:known.length = l.bodies.length) (r:List AV)
  (hy:∀ i k:Nat, i < k -> k < l.bodies.length -> ah2 l known i = true -> ah2 l known k = true ->
   bpf prog 1000 [i64 i,i64 k] (aii D (fdC l known (aa2 l) r) false default) (bl (!af2 l known i k)) (aii D (fdC l known (aa2 l) r) (af2 l known i k) (cond (af2 l known i k) (prG l known i k) default))) :
  Con prog 337 [.yl 1000,.iptr [.iptr (fdC l known (aa2 l) r)]] (aii D (fdC l known (aa2 l) r) false default) (.tup []) (aii D (fdC l known (aa2 l) r) (afh l known).isSome ((afh l known).getD default)):=by
 have h8:=(ab8 hli).2.2.2.1;refine gF func337 (fun k z h=>bg7 h) ?_;refine gl ?_;refine gL1 [0,1,10] [1000,1001,1002] (fun (i:Nat)=>[(11,some (i64 i))]) (fun _=>[]) (fun i=>i <= l.bodies.length /\ ∀ j,j < i -> (a0i l known j).isNone = true) (fun i=>l.bodies.length - i) 0 ⟨zero_le _,fun j h=>by omega⟩ ?_;rintro i ⟨hi,hj⟩ K1 hK1;refine gC (fun ht12=>?_) (fun ht12=>?_)
 ·have hin:=aa9 ht12;refine ga aat ?_;refine gL1 [0,1,3,10,11] [] (fun (k:Nat)=>[(4,some (i64 (i + 1 + k:Nat)))]) (fun _=>[(1000,some (pb0 D (fdC l known (aa2 l) r) false)),(1001,some (pb1 default)),(1002,some (pb2 false))]) (fun k=>i + 1 + k <= l.bodies.length /\ ∀ j,j < k -> (!af2 l known i (i + 1 + j)) = true) (fun k=>l.bodies.length - k) 0 ⟨by omega,fun j h=>by omega⟩ ?_;rintro k ⟨hkl,hkj⟩ K2 hK2;refine gl ?_;refine gC (fun ht23=>?_) (fun ht23=>?_)
  ·have hkn:i + 1 + k < l.bodies.length:=aa9 ht23;refine gc (a7x l hli known hk r i hin) ?_;refine gcG (fun _=>(a7x l hli known hk r (i + 1 + k) hkn)) ?_;refine gs (bev rfl rfl rfl (by intro hb; have h0:af2 l known i (i + 1 + k) = false:=a8v (by simpa using hb); simp only [h0,cond_false]; exact bep (by intro k z h; exact h)) (fun hb=>bj4 (k:=1000) (.opt rfl (by rw [hb]; rfl)) (hy i (i + 1 + k) oz hkn (fr1 hb) (fr2 hb)) (.cons (.opt rfl (by rw [hb]; rfl)) (.cons (.opt rfl (by rw [hb]; rfl)) .nil)) (by intro k z h; exact h) rfl rfl)) ?_;refine gC (fun ht40=>?_) (fun ht40=>?_)
   ·have h2 : af2 l known i (i + 1 + k) = true := by have h9 := fr2 ht40; rw [Bool.not_not] at h9; exact h9
    have hat:a0i l known i = some (i + 1 + k):=by unfold a0i; rw [ac2 oz hkj (by rw [h2]; rfl),Option.map_some]; congr 1; omega
    have hg:afh l known = some (prG l known i (i + 1 + k)):=by unfold afh; rw [ac2 hin hj (by rw [hat]; rfl),Option.map_some,hat]
    refine gR ?_;simp only [hg,h2,Option.isSome_some,Option.getD_some,cond_true];exact Fin.keep (fun k z h=>bpj h)
   ·have h2 : af2 l known i (i + 1 + k) = false := by cases hc : cond (ah2 l known i) (ah2 l known ((i + 1 + k : Nat) : Int)) false with | false => exact a8v hc | true => rw [hc, Bool.not_not] at ht40; exact ht40
    refine ga aat ?_;exact gK1 hK2 (k + 1) ⟨by omega,fun j h9=>by rcases lt_or_ge j k with g | g; exact hkj j g; (have:j = k:=by omega); subst this; rw [h2]; rfl⟩ (hw:=Wk.of aa6 (.cons rfl (BlkSub.of (by rw [h2])) (.cons rfl (BlkSub.of (by rw [h2]; rfl)) (.cons rfl (BlkSub.of (by rw [h2])) .nil))))
  ·have hkn : ¬ i + 1 + k < l.bodies.length := fun h => by have h1 := a7j ht23; omega
   have hat:a0i l known i = none:=by unfold a0i; rw [show l.bodies.length - (i + 1) = k by omega,acg hkj]; rfl
   refine ga aat ?_;exact gK1 hK1 (i + 1) ⟨hin,fun j h9=>by rcases lt_or_ge j i with g | g; exact hj j g; (have:j = i:=by omega); subst this; rw [hat]; rfl⟩
 ·have hin:=aan hi ht12;have hg:afh l known = none:=by unfold afh; rw [<- hin,acg hj]; rfl
  refine gR ?_;simp only [hg,Option.isSome_none,Option.getD_none];exact Fin.keep (fun k z h=>h)
end Go.Lw
namespace Go.Lw
variable {P:Program}
mutual
def AV.pm (σ:Nat -> Nat):AV -> AV
  | .ms k sz off len=>.ms (σ k) sz off len
  | .ptr k off=>.ptr (σ k) off
  | .eptr k sz i off=>.eptr (σ k) sz i off
  | .yl k=>.yl (σ k)
  | .agg cs=>.agg (AV.pms σ cs)
  | .tup cs=>.tup (AV.pms σ cs)
  | .fn f cs=>.fn f (AV.pms σ cs)
  | .opt b x=>.opt b (AV.pm σ x)
  | .v x=>.v x
  | .lst sz l=>.lst sz l
  | .iptr l=>.iptr l
  | .cl f cs ds=>.cl f cs ds
def AV.pms (σ:Nat -> Nat):List AV -> List AV
  | []=>[]
  | x :: l=>AV.pm σ x :: AV.pms σ l
end
theorem AV.pms_eq (σ:Nat -> Nat):∀ l, AV.pms σ l = l.map (AV.pm σ)
 | []=>rfl
 | x :: l=>by simp only [AV.pms,map_cons,AV.pms_eq σ l]
theorem AV.pm_one (σ:Nat -> Nat) (x:AV) (h:x.one = true):(x.pm σ).one = true:=by
 cases x <;> simp only [AV.pm] <;> exact h
mutual
theorem AV.pm_pm {σ:Nat -> Nat} (hσ:∀ k, σ (σ k) = k):∀ x:AV, (x.pm σ).pm σ = x
 | .ms k sz off len=>by simp only [AV.pm,hσ]
 | .ptr k off=>by simp only [AV.pm,hσ]
 | .eptr k sz i off=>by simp only [AV.pm,hσ]
 | .yl k=>by simp only [AV.pm,hσ]
 | .agg cs=>by simp only [AV.pm]; rw [AV.pms_pms hσ cs]
 | .tup cs=>by simp only [AV.pm]; rw [AV.pms_pms hσ cs]
 | .fn f cs=>by simp only [AV.pm]; rw [AV.pms_pms hσ cs]
 | .opt b x=>by simp only [AV.pm]; rw [AV.pm_pm hσ x]
 | .v x=>by simp only [AV.pm]
 | .lst sz l=>by simp only [AV.pm]
 | .iptr l=>by simp only [AV.pm]
 | .cl f cs ds=>by simp only [AV.pm]
theorem AV.pms_pms {σ:Nat -> Nat} (hσ:∀ k, σ (σ k) = k):∀ l:List AV, AV.pms σ (AV.pms σ l) = l
 | []=>by simp only [AV.pms]
 | x :: l=>by simp only [AV.pms]; rw [AV.pm_pm hσ x,AV.pms_pms hσ l]
end
theorem a3f {g:Nat -> Array Value -> Prop} {S:Nat -> Nat -> Prop} {σ:Nat -> Nat} (hσ:∀ k, σ (σ k) = k) {m:Nat -> Option Nat} {v:Value} {x:AV} (h:Rep g S m v x):Rep g S (fun k=>m (σ k)) v (x.pm σ):=by
 induction h with
 | v x=>exact .v x
 | lst0 a cap sz'=>exact .lst0 a cap sz'
 | lst u hb hc hl hs ho hu hr _=>exact .lst u hb hc hl hs ho hu hr
 | iptr u hb ho hu hr _=>exact .iptr u hb ho hu hr
 | cl a b c d _ _=>exact .cl a b c d
 | ptr hm=>exact .ptr (by simp only [hσ]; exact hm)
 | eptr hm=>exact .eptr (by simp only [hσ]; exact hm)
 | yl hm=>exact .yl (by simp only [hσ]; exact hm)
 | ms0 a k sz off=>exact .ms0 _ _ _ _
 | ms hm hc hS=>exact .ms (by simp only [hσ]; exact hm) hc hS
 | opt h h' ih=>exact .opt ih h'
 | agg hn h1 hr ih =>
  simp only [AV.pm,AV.pms_eq];refine .agg (by simpa using hn) ?_ ?_
  ·intro j c hc;simp only [getElem?_map,map_eq_some_iff] at hc;obtain ⟨y,hy,rfl⟩:=hc;exact AV.pm_one _ _ (h1 j y hy)
  ·intro j u c hu hc;simp only [getElem?_map,map_eq_some_iff] at hc;obtain ⟨y,hy,rfl⟩:=hc;exact ih j u y hu hy
 | tup hn hr ih =>
  simp only [AV.pm,AV.pms_eq];refine .tup (by simpa using hn) ?_;intro j u c hu hc;simp only [getElem?_map,map_eq_some_iff] at hc;obtain ⟨y,hy,rfl⟩:=hc;exact ih j u y hu hy
 | fn hn hr ih =>
  simp only [AV.pm,AV.pms_eq];refine .fn (by simpa using hn) ?_;intro j u c hu hc;simp only [getElem?_map,map_eq_some_iff] at hc;obtain ⟨y,hy,rfl⟩:=hc;exact ih j u y hu hy
theorem blj {g:Nat -> Array Value -> Prop} {S:Nat -> Nat -> Prop} {σ:Nat -> Nat} (hσ:∀ k, σ (σ k) = k) {m:Nat -> Option Nat} {w:World} {o:Option Nat} {x:Blk} (h:BlkRep g S m w o x) :
  BlkRep g S (fun k=>m (σ k)) w o (x.map (AV.pm σ)):=by
 cases x with
 | row sz es=>exact h.mono (fun _ _ h=>h) (fun _ _ h=>h) (fun _ _ hk=>hk.elim) rfl (fun _ _=>rfl)
 | vec vs=>exact h.mono (fun _ _ h=>h) (fun _ _ h=>h) (fun _ _ hk=>hk.elim) rfl (fun _ _=>rfl)
 | loop=>exact h.mapLoop _ (fun _ _ _ _ h=>a3f hσ h)
 | box cs =>
  cases h with
  | box hw hn h1 hrr =>
   refine .box hw (by simpa using hn) ?_ ?_
   ·intro j x hx;simp only [getElem?_map,map_eq_some_iff] at hx;obtain ⟨y,hy,rfl⟩:=hx;exact AV.pm_one _ _ (h1 j y hy)
   ·intro j u x hu hx;simp only [getElem?_map,map_eq_some_iff] at hx;obtain ⟨y,hy,rfl⟩:=hx;exact a3f hσ (hrr j u y hu hy)
theorem biz {σ:Nat -> Nat} (hσ:∀ k, σ (σ k) = k):∀ sl:acf, ao2 (AV.pm σ) (ao2 (AV.pm σ) sl) = sl
 | []=>rfl
 | (t,none) :: l=>by simp only [ao2,biz hσ l]
 | (t,some x) :: l=>by simp only [ao2,biz hσ l,AV.pm_pm hσ x]
theorem Blk.pm_pm {σ:Nat -> Nat} (hσ:∀ k, σ (σ k) = k) (x:Blk):(x.map (AV.pm σ)).map (AV.pm σ) = x:=by
 cases x with
 | row sz es=>rfl
 | vec vs=>rfl
 | loop d st pe sl=>simp only [Blk.map,biz hσ]
 | box cs =>
  simp only [Blk.map];rw [<- AV.pms_eq,<- AV.pms_eq,AV.pms_pms hσ]
def pmH (σ:Nat -> Nat):Hp -> Hp
  | []=>[]
  | (k,x) :: l=>(σ k,match x with | some b=>some (b.map (AV.pm σ)) | none=>none) :: pmH σ l
theorem alu {σ:Nat -> Nat} (hσ:∀ k, σ (σ k) = k):∀ (H:Hp) (k:Nat), lk (pmH σ H) k = (lk H (σ k)).map (Blk.map (AV.pm σ))
 | [],k=>rfl
 | (k', x) :: l, k=>by
  simp only [pmH,aad,alu hσ l k]
  by_cases h:k = σ k'
  ·rw [if_pos h, if_pos (by rw [h, hσ])];cases x <;> rfl
  ·rw [if_neg h,if_neg (fun e=>h (by rw [<- e,hσ]))]
theorem a9d {σ:Nat -> Nat} (hσ:∀ k, σ (σ k) = k) (H:Hp) (m:Nat -> Option Nat):Own (pmH σ H) (fun k=>m (σ k)) = Own H m:=by
 funext b;apply propext;constructor
 ·rintro ⟨k, z, hz, hb⟩;rw [alu hσ,map_eq_some_iff] at hz;obtain ⟨y,hy,rfl⟩:=hz;exact ⟨σ k,y,hy,hb⟩
 ·rintro ⟨k, y, hy, hb⟩;exact ⟨σ k,y.map (AV.pm σ),by rw [alu hσ,hσ,hy]; rfl,by simp only [hσ]; exact hb⟩
theorem bac {σ:Nat -> Nat} (hσ:∀ k, σ (σ k) = k) {ext:Nat -> Prop} {H:Hp} {m:Nat -> Option Nat} {w:World} (h:HeapRel ext H m w):HeapRel ext (pmH σ H) (fun k=>m (σ k)) w:=by
 have e:Im ext (pmH σ H) (fun k=>m (σ k)) w = Im ext H m w:=by funext b cs; simp only [Im,a9d hσ]
 refine ⟨?_,?_,?_⟩
 ·intro k z hz;rw [alu hσ,map_eq_some_iff] at hz;obtain ⟨y,hy,rfl⟩:=hz;rw [e];exact blj hσ (h.blk _ y hy)
 ·intro k k' z z' b hz hz' hb hb';rw [alu hσ,map_eq_some_iff] at hz hz';obtain ⟨y,hy,_⟩:=hz;obtain ⟨y',hy',_⟩:=hz';have:=h.inj _ _ y y' b hy hy' hb hb';rw [<- hσ k,this,hσ]
 ·intro k z b hz hb;rw [alu hσ,map_eq_some_iff] at hz;obtain ⟨y,hy,_⟩:=hz;exact h.sep _ y b hy hb
theorem Con.pm {σ:Nat -> Nat} (hσ:∀ k, σ (σ k) = k) {f:FuncId} {args:List AV} {H H':Hp} {r:AV} (h:Con P f args H r H'):Con P f (args.map (AV.pm σ)) (pmH σ H) (r.pm σ) (pmH σ H'):=by
 refine ⟨h.ok,?_⟩;intro ext m w vs hext hheap hvs hrep
 have hlk:∀ k, lk (pmH σ (pmH σ H)) k = lk H k:=by
  intro k;rw [alu hσ,alu hσ,hσ];cases lk H k with
  | none=>rfl
  | some y=>simp only [Option.map_some,Blk.pm_pm hσ]
 have hh:=HeapRel.congr hlk (bac hσ hheap);have em:(fun k=>(fun k=>m (σ k)) (σ k)) = m:=by funext k; simp only [hσ]
 have eo:Own (pmH σ H) m = Own H (fun k=>m (σ k)):=by
  have:=a9d hσ H (fun k=>m (σ k));rw [em] at this; exact this
 have ei:Im ext (pmH σ H) m w = Im ext H (fun k=>m (σ k)) w:=by funext b cs; simp only [Im,eo]
 refine Calls.mono (h.ret ext (fun k=>m (σ k)) w vs hext hh (by simpa using hvs) (fun j v x hv hx=>?_)) ?_
 ·have h1 := hrep j v (x.pm σ) hv (by simp [hx]);have h2:=a3f hσ h1;rw [AV.pm_pm hσ,ei] at h2;exact h2
 ·rintro e w' ⟨v, m', rfl, hf, hh', hn, hk, hrr⟩;refine ⟨v,fun k=>m' (σ k),rfl,eo ▸ hf,bac hσ hh',?_,?_,?_⟩
  ·intro k x b hx hb;rw [alu hσ,map_eq_some_iff] at hx;obtain ⟨y,hy,_⟩:=hx;rw [eo];exact hn _ y b hy hb
  ·intro k x y hx hy;rw [alu hσ,map_eq_some_iff] at hx hy;obtain ⟨x',hx',_⟩:=hx;obtain ⟨y',hy',_⟩:=hy;have:=hk _ x' y' hx' hy';simpa only [hσ] using this
  ·have e2 : Im ext (pmH σ H') (fun k => m' (σ k)) w' = Im ext H' m' w' := by funext b cs; simp only [Im, a9d hσ]
   rw [e2];exact a3f hσ hrr
end Go.Lw
namespace Go.Lw
open Go.Proofs
theorem gZ {P:Program} {N:Nat} {Q:Exit -> AS -> Prop} {c:Code} {s:AS} (h:Gd P N Q (.code c [] s)):AWP P N c Q s:=h
theorem a0t {P:Program} {N:Nat} {Q:Exit -> AS -> Prop} {c:Code} {s s':AS} (hw:Wk s s') (h:a59 P N c Q s'):a59 P N c Q s:=by
 intro C m a w n hro hN hr;obtain ⟨m',hr'⟩:=hw C m a w hr;exact h C m' a w n hro hN hr'
def swp (k:Nat):Nat:=bif Nat.beq k 1000 then 900 else bif Nat.beq k 900 then 1000 else bif Nat.beq k 1001 then 2 else bif Nat.beq k 2 then 1001 else bif Nat.beq k 1002 then 3 else bif Nat.beq k 3 then 1002 else k
theorem nb {a b:Nat} (h:¬ a = b):Nat.beq a b = false:=by
 cases h1:Nat.beq a b
 ·rfl
 ·exact absurd (eq_of_beq_eq_true h1) h
theorem bjh (k:Nat):swp (swp k) = k:=by
 by_cases h1:k = 1000
 ·subst h1; rfl
 by_cases h2:k = 900
 ·subst h2; rfl
 by_cases h3:k = 1001
 ·subst h3; rfl
 by_cases h4:k = 2
 ·subst h4; rfl
 by_cases h5:k = 1002
 ·subst h5; rfl
 by_cases h6:k = 3
 ·subst h6; rfl
 have e:swp k = k:=by simp only [swp,nb h1,nb h2,nb h3,nb h4,nb h5,nb h6,cond_false]
 rw [e,e]
theorem bdh (l:Li) (hl:l.ok) (hli:liE l = 0) (known:List Bool) (hk:known.length = l.bodies.length) (r:List AV) :
  FnC prog 296 [.iptr (fdC l known (aa2 l) r)] (.tup [((afh l known).getD default).av,bl (afh l known).isSome]):=by
 refine a8y (rs:=Tryz.f296.results.toList) func296 rfl rfl (by simp) rfl (fun k z h=>by cases h) ?_;refine au0 (gZ (go ?_));refine a0t (s':=⟨[(1,some (.iptr [.iptr (fdC l known (aa2 l) r)])),(2,some (.ptr 2 0)),(3,some (.ptr 3 0))],[(2,some (pb1 default)),(3,some (pb2 false))]⟩) ((Wk.freezeB (k:=1) rfl rfl).trans (Wk.of (.k (.k (.k .nil))) (.cons rfl (BlkSub.boxL (.cons (.refl _) (.cons (.nil _ _ _) (.cons (.nil _ _ _) (.cons (.refl _) .nil)))) rfl) (.k .nil)))) ?_;refine ba5 ?_;refine au0 (gZ (go ?_));refine gc (a9p (fdC l known (aa2 l) r)) ?_;refine a5l ?_
 have hy:∀ i k:Nat, i < k -> k < l.bodies.length -> ah2 l known i = true -> ah2 l known k = true ->
   bpf prog 1000 [i64 i,i64 k] (aii (rgD Tryz.f296.ntmps Tryz.f296.body) (fdC l known (aa2 l) r) false default) (bl (!af2 l known i k)) (aii (rgD Tryz.f296.ntmps Tryz.f296.body) (fdC l known (aa2 l) r) (af2 l known i k) (cond (af2 l known i k) (prG l known i k) default)):=by
  intro i k hik hkn hfi hfk;refine bj0 (k:=1000) (fun k z h=>bg7 h) rfl rfl (by intro p hp; have h9:p ∈ [11,12]:=hp; have h8:p = 11 \/ p = 12:=(by simpa using h9); show p < 42; rcases h8 with h7 | h7 <;> (rw [h7]; decide)) ?_;refine gZ (go ?_);refine ⟨rfl,_,_,rfl,?_⟩;have hJ:gJ l 0 i (fun o=>decide (o = (k:Int))) = abu l 0 i (aeu l.bodies.length k):=bks hli (fun o h0 h1=>(a0w h0 oz oz).symm);refine gZ (go ?_);refine gc (a3y l hl hli known hk r 0 i) ?_;refine gc (a3y l hl hli known hk r 0 k) ?_;refine gD ?_ (5,0);refine gW (Wk.freezeB (k:=5) rfl rfl) ?_;refine gc (r:=i64 (abu l 0 i (aeu l.bodies.length k))) (by rw [<- hJ]; exact Con.subA (.cons (.refl _) (.cons (.refl _) (.cons (.refl _) (.cons (bav rfl) .nil)))) (aym l hl hli _ 0 i 322 [] [.iptr [i64 k]] (fun o=>decide (o = (k:Int))) (fun o h0 h1=>a8b o k))) ?_;refine gC (fun ht=>?_) (fun ht=>?_)
  ·have h2 : af2 l known i k = true := by unfold af2; rw [hfi, hfk]; exact (auv.symm.trans ht)
   rw [h2];exact ⟨_,_,rfl,Fin.keep (by intro q z h; simp only [aii,aad] at h; split at h; (subst_vars; exact h); split at h; (subst_vars; exact h); split at h; (subst_vars; exact h); cases h)⟩
  ·have h2 : af2 l known i k = false := by unfold af2; rw [hfi, hfk]; exact (auv.symm.trans ht)
   rw [h2];exact ⟨_,_,rfl,Fin.keep (by intro q z h; simp only [aii,aad] at h; split at h; (subst_vars; exact h); split at h; (subst_vars; exact h); split at h; (subst_vars; exact h); cases h)⟩
 have hcon:=Con.pm bjh (a56 _ l hl hli known hk r hy);cases hg:afh l known with
 | none =>
  rw [hg] at hcon;refine atg (k:=900) (sl0:=[(1,some (.iptr [.iptr (fdC l known (aa2 l) r)])),(2,some (.ptr 2 0)),(3,some (.ptr 3 0))]) (.tmp rfl) (by intro t x h; simp only [aad] at h; split at h; (subst_vars; exact h); split at h; (subst_vars; exact h); split at h; (subst_vars; exact h); cases h) rfl rfl hcon (fun k' z h=>h) rfl rfl rfl rfl (by intro h; cases h) (.inl ⟨rfl,?_⟩);refine au0 (gZ (go ?_));refine AWP.out (gZ (go ?_));refine gR ?_;exact Fin.sub Fin.pure (Sub.tup (.cons an8 (.cons (.refl _) .nil)))
 | some g =>
  rw [hg] at hcon;refine atg (k:=900) (sl0:=[(1,some (.iptr [.iptr (fdC l known (aa2 l) r)])),(2,some (.ptr 2 0)),(3,some (.ptr 3 0))]) (.tmp rfl) (by intro t x h; simp only [aad] at h; split at h; (subst_vars; exact h); split at h; (subst_vars; exact h); split at h; (subst_vars; exact h); cases h) rfl rfl hcon (fun k' z h=>h) rfl rfl rfl rfl (by intro h; cases h) (.inr ⟨rfl,?_⟩);exact (gE2 (P:=prog) (N:=Tryz.f296.ntmps) (e:=.ret) rfl)
end Go.Lw
namespace Go.Lw
open Go.Proofs
theorem a0x {α:Type} {o:Option α} (h:o.isSome = true):∃ x,o = some x:=by cases o <;> simp_all
theorem a1p {α:Type} {o:Option α} (h:o.isSome = false):o = none:=by cases o <;> simp_all
theorem bci (l:Li) (hl:l.ok) (hli:liE l = 0) (known:List Bool) (hk:known.length = l.bodies.length) (r:List AV) :
  FnC prog 240 [.iptr (fdC l known (aa2 l) r)] (.tup [((adx l known).getD default).av,bl (adx l known).isSome]):=by
 refine gF0 func240 ?_;refine gc (a5a l hl hli known (aa2 l) hk r) ?_;refine gC (fun ht13=>?_) (fun ht13=>?_)
 ·obtain ⟨g, hg⟩:=a0x ht13;refine gE2 ?_;unfold adx; rw [hg]; rfl
 ·have hg:=a1p ht13;refine gc (bdh l hl hli known hk r) ?_;refine gC (fun ht20=>?_) (fun ht20=>?_)
  ·obtain ⟨g, hg2⟩:=a0x ht20;refine gE2 ?_;unfold adx; rw [hg,hg2]; rfl
  ·have hg2:=a1p ht20;refine gc (a44 l hl hli known hk r) ?_;refine gE2 ?_;unfold adx; rw [hg,hg2]; rfl
end Go.Lw
namespace Go.Lw
open Go.Proofs
theorem at3 {ts:LL} {r e:Nat} (tw:Tw ts r) {a b c d:List Rat} (ha:Nm ts.length e a) (hb:Nm ts.length e b) (hc:Nm ts.length e c) (hd:Nm ts.length e d) (he:2 * e <= lm ts.length) :
  Con prog 144 [.ptr 1000 0,ptA a b,ptA c d] [(1000,some (azy ts))] (ptA (sh ts.length (subT ts (dec ts.length a) (dec ts.length c))) (sh ts.length (subT ts (dec ts.length b) (dec ts.length d)))) [(1000,some (azy ts))]:=by
 refine gF func144 (fun k z h=>aa3 h) ?_;refine gt (aab (anu tw ha hc oz) (ev3 rfl rfl rfl) hHa rfl rfl) ?_;refine gt (aab (anu tw hb hd oz) (ev3 rfl rfl rfl) hHa rfl rfl) ?_;refine gD ?_;refine gR ?_;exact Fin.keep (abt rfl)
theorem aw1 (R:List AV) (a:List Rat):Con prog 232 [.ptr 1000 0, nA a] [(1000, some (.box [.lst 1 R, .v .nilIface]))] (.tup [nA a, .v .nilIface]) [(1000, some (.box [.lst 1 R, .v .nilIface]))]:=by
 refine gF func232 (fun k z h=>aa3 h) ?_;refine gC (fun ht10=>?_) (fun ht10=>?_) (st1:=(2,0))
 ·cases ht10
 ·refine gR ?_;show Fin _ (AV.tup [nA a,.v .nilIface]) _ _;exact Fin.keep (abt rfl)
theorem ajc (R:List AV) (a b:List Rat):Con prog 143 [.ptr 1000 0, ptA a b] [(1000, some (.box [.lst 1 R, .v .nilIface]))] (.tup [ptA a b, .v .nilIface]) [(1000, some (.box [.lst 1 R, .v .nilIface]))]:=by
 refine gF func143 (fun k z h=>aa3 h) ?_;refine gC (fun ht10=>?_) (fun ht10=>?_) (st1:=(2,0))
 ·cases ht10
 ·refine gR ?_;show Fin _ (AV.tup [ptA a b,.v .nilIface]) _ _;exact Fin.keep (abt rfl)
theorem aj6 {ts:LL} {r e:Nat} (tw:Tw ts r) {a b c d:List Rat} (ha:Nm ts.length e a) (hb:Nm ts.length e b) (hc:Nm ts.length e c) (hd:Nm ts.length e d) (he:e <= lm ts.length) (f:FuncId) (v:List Rat)
  (hf:Con prog f [.ptr 1000 0,ptA a b,ptA c d] [(1000,some (azy ts))] (nA v) [(1000,some (azy ts))]) :
  FnC prog 145 [aa5 ts,ptA a b,ptA c d,.fn f []] (.tup [nA v,.v .nilIface]):=by
 refine gF0 func145 ?_;refine gc (adp (e:=e) tw [(a,b),(c,d)] (by simp only [mem_cons,not_mem_nil,or_false]; rintro p (rfl | rfl); exact ⟨ha,hb⟩; exact ⟨hc,hd⟩) he (by simp)) ?_;refine gC (fun ht18=>?_) (fun ht18=>?_) (st1:=(3,0))
 ·cases ht18
 ·refine gs (bho (.tmp rfl) (show Con prog f ([.ptr 22 0, ptA a b, ptA c d] ++ []) [(22, some (azy ts))] (nA v) [(22, some (azy ts))] from Con.rekeyB 22 rfl rfl rfl rfl hf) (ev3 rfl rfl rfl) hHa rfl rfl) ?_;refine gt (aab (Con.rekeyB 22 rfl rfl rfl rfl (aw1 _ _)) (ev2 rfl rfl) hHa rfl rfl) ?_;refine gE2 ?_;rfl
theorem al7 {ts:LL} {r e:Nat} (tw:Tw ts r) {a b c d:List Rat} (ha:Nm ts.length e a) (hb:Nm ts.length e b) (hc:Nm ts.length e c) (hd:Nm ts.length e d) (he:2 * (e + e + kB r ts.length) <= lm ts.length) :
  FnC prog 64 [aa5 ts,ptA a b,ptA c d] (.tup [nA (sh ts.length (bbv ts (dec ts.length a) (dec ts.length b) (dec ts.length c) (dec ts.length d))),.v .nilIface]):=by
 refine gF0 func64 ?_;refine gc (Con.subA (.cons (.refl _) (.cons (.refl _) (.cons (.refl _) (.cons (Sub.fn0 _) .nil)))) (aj6 tw ha hb hc hd oz _ _ (aw5 tw ha hb hc hd he))) ?_;refine gE2 ?_
 first | rfl | (simp; done)
theorem apa {ts:LL} {r e:Nat} (tw:Tw ts r) {a b c d:List Rat} (ha:Nm ts.length e a) (hb:Nm ts.length e b) (hc:Nm ts.length e c) (hd:Nm ts.length e d) (he:2 * (e + e + kB r ts.length) <= lm ts.length) :
  FnC prog 171 [aa5 ts,nA a,nA b,ptA c d] (.tup [ptA (sh ts.length (a02 ts (dec ts.length a) (dec ts.length b) (dec ts.length c) (dec ts.length d))) (sh ts.length (azz ts (dec ts.length a) (dec ts.length b) (dec ts.length c) (dec ts.length d))),.v .nilIface]):=by
 refine gF0 func171 ?_;refine gc (ag5 (e:=e) tw [a,b,c,d] (by simp only [mem_cons,not_mem_nil,or_false]; rintro x (rfl | rfl | rfl | rfl) <;> assumption) oz (by simp)) ?_;refine gC (fun ht22=>?_) (fun ht22=>?_) (st1:=(3,0))
 ·cases ht22
 ·refine gt (aab (Con.rekeyB 27 rfl rfl rfl rfl (aem tw ha hc oz)) (ev3 rfl rfl rfl) hHa rfl rfl) ?_;refine gt (aab (Con.rekeyB 27 rfl rfl rfl rfl (aem tw hb hd oz)) (ev3 rfl rfl rfl) hHa rfl rfl) ?_;refine gt (aab (Con.rekeyB 27 rfl rfl rfl rfl (anp ▸ anu tw (ha.mul tw rfl hc) (hb.mul tw rfl hd) oz)) (ev3 rfl rfl rfl) hHa rfl rfl) ?_;refine gt (aab (Con.rekeyB 27 rfl rfl rfl rfl (aem tw hb hc oz)) (ev3 rfl rfl rfl) hHa rfl rfl) ?_;refine gt (aab (Con.rekeyB 27 rfl rfl rfl rfl (aem tw ha hd oz)) (ev3 rfl rfl rfl) hHa rfl rfl) ?_;refine gt (aab (Con.rekeyB 27 rfl rfl rfl rfl (ayj ▸ anw tw (hb.mul tw rfl hc) (ha.mul tw rfl hd) oz)) (ev3 rfl rfl rfl) hHa rfl rfl) ?_;refine gt (aab (Con.rekeyB 27 rfl rfl rfl rfl (ajc _ _ _)) (ev2 rfl rfl) hHa rfl rfl) ?_;refine gD ?_;refine gE2 ?_;rfl
theorem a0d {ts:LL} {r e:Nat} (tw:Tw ts r) {a b c d:List Rat} (ha:Nm ts.length e a) (hb:Nm ts.length e b) (hc:Nm ts.length e c) (hd:Nm ts.length e d) (he:2 * e <= lm ts.length) :
  FnC prog 291 [aa5 ts,ptA a b,ptA c d] (.tup [ptA (sh ts.length (T.add ts.length (dec ts.length a) (dec ts.length c))) (sh ts.length (T.add ts.length (dec ts.length b) (dec ts.length d))),.v .nilIface]):=by
 refine gF0 func291 ?_;refine gc (adp (e:=e) tw [(a,b),(c,d)] (by simp only [mem_cons,not_mem_nil,or_false]; rintro p (rfl | rfl); exact ⟨ha,hb⟩; exact ⟨hc,hd⟩) oz (by simp)) ?_;refine gC (fun ht16=>?_) (fun ht16=>?_) (st1:=(3,0))
 ·cases ht16
 ·refine gt (aab (Con.rekeyB 21 rfl rfl rfl rfl (anw tw ha hc oz)) (ev3 rfl rfl rfl) hHa rfl rfl) ?_;refine gt (aab (Con.rekeyB 21 rfl rfl rfl rfl (anw tw hb hd oz)) (ev3 rfl rfl rfl) hHa rfl rfl) ?_;refine gt (aab (Con.rekeyB 21 rfl rfl rfl rfl (ajc _ _ _)) (ev2 rfl rfl) hHa rfl rfl) ?_;refine gD ?_;refine gE2 ?_;rfl
theorem ak2 {x y:Rat} (hx:Qs x) (hy:Qs y):FnC prog 79 [qA x, qA y] (ptA (sh 0 (x:Rat)) (sh 0 (y:Rat))):=by
 refine gF0 func79 ?_;refine gc (a09 hx) ?_;refine gc (a09 hy) ?_;refine gD ?_;refine gE1 ?_
 first | rfl | (simp; done)
theorem a4r {ts:LL} {r e:Nat} (tw:Tw ts r) {a b c d:List Rat} (ha:Nm ts.length e a) (hb:Nm ts.length e b) (hc:Nm ts.length e c) (hd:Nm ts.length e d) {x y:Rat} (hx:Qb e x) (hy:Qb e y) (he:8 * e + 4 * kB r ts.length + 4 <= lm ts.length) :
  FnC prog 230 [aa5 ts,.agg [nA a,nA b,nA c,nA d],qA x,qA y] (.tup [ptA (sh ts.length (atX ts (dec ts.length a) (dec ts.length b) (dec ts.length c) x y)) (sh ts.length (atY ts (dec ts.length a) (dec ts.length b) (dec ts.length d) x y)),.v .nilIface]):=by
 have hlm:=ajn ts.length;have nx:=Nm.ofQ ha.five (Cb.one hx);have ny:=Nm.ofQ ha.five (Cb.one hy);have nX:=amr tw ha hb nx ny;have nY:=ang tw ha hb nx ny;have z1:e <= 2 * (e + e + kB r ts.length) + 1:=by omega
 have z2:2 * (2 * (e + e + kB r ts.length) + 1) <= lm ts.length:=a83 he;have hadd:=a0d tw nX nY (hc.mono z1) (hd.mono z1) z2;refine gF0 func230 ?_;refine gc (ag5 (e:=e) tw [a,b,c,d] (by simp only [mem_cons,not_mem_nil,or_false]; rintro x (rfl | rfl | rfl | rfl) <;> assumption) oz (by simp)) ?_;refine gC (fun ht25=>?_) (fun ht25=>?_) (st1:=(3,0))
 ·cases ht25
 ·refine gc (ak2 (hx.qs oz) (hy.qs oz)) ?_;refine gc (apa tw ha hb nx ny oz) ?_;refine gD ?_;refine gC (fun ht41=>?_) (fun ht41=>?_) (st1:=(6,0))
  ·cases ht41
  ·refine gc hadd ?_;refine gE2 ?_;rw [a7t,a9v]; rfl
end Go.Lw
namespace Go.Lw
open Go.Proofs
theorem ayl (rs:List (List Rt)) (r e:Nat) (h:TR rs r) (xs:List (List Rt)) (hx:∀ a ∈ xs, NR a e) (he:e <= lm rs.length) (hl:xs.length <= 1000):FnC prog 95 [ahu rs, .lst 1 (xs.map nR)] (i64 (abh rs xs)):=by
 refine gF0 func95 ?_;refine gc (amb rs r h) ?_;refine gC (fun ht13=>?_) (fun ht13=>?_)
 ·have h1:=ahv ht13;refine gE1 ?_;rw [awl h1]
 ·have h1:=aho ht13;refine gl ?_;refine gL1 [2,15,16] [2] (fun (i:Nat)=>[(17,some (i64 i))]) (fun _=>[]) (fun i=>i <= xs.length /\ ∀ x ∈ xs.take i,aic rs.length x = 0) (fun i=>xs.length - i) 0 ⟨zero_le _,fun x hx=>by simp at hx⟩ ?_;rintro i ⟨hi,hj⟩ K1 hK1;refine gC (fun ht18=>?_) (fun ht18=>?_)
  ·have hin : i < xs.length := by simpa [aaa] using ht18
   obtain ⟨a,ha⟩:=ab5 hin;have hok:=hx a (mem_of_getElem? ha);have hone:abh rs [a] = aic rs.length a:=a17 h1;refine gi (aag ha) ?_;refine gc (a5w rs r h a e hok he) ?_;refine gC (fun ht28=>?_) (fun ht28=>?_)
   ·have h2:=ahv ht28;refine gE1 ?_;rw [hone] at h2 ⊢; rw [ava h1 ha hj h2]
   ·have h2:=aho ht28;rw [hone] at h2;refine ga aat ?_;exact gK1 hK1 (i + 1) ⟨hin,fun x hx=>by rw [aaj ha] at hx; rcases List.mem_append.1 hx with h9 | h9; exact hj x h9; (rw [List.mem_singleton.1 h9]; exact h2)⟩
  ·have hin : i = xs.length := by have : xs.length <= i := (by simpa [aaa] using ht18); omega
   subst hin;rw [take_length] at hj;refine gE1 ?_;rw [aog h1 hj]; rfl
theorem air {ts:LL} {r e f:Nat} (tw:Tw ts r) {a b:List Rat} (ha:Nm ts.length e a) (hb:Nm ts.length f b) (he:e + f <= lm ts.length):FnC prog 112 [aa5 ts, nA a, nA b] (nA (sh ts.length (T.add ts.length (dec ts.length a) (dec ts.length b)))):=by
 refine gF0 func112 ?_;refine gc (bm5 tw ha hb he) ?_;refine gE1 ?_
 first | rfl | (simp; done)
theorem af0 {ts:LL} {r e f:Nat} (tw:Tw ts r) {a b:List Rat} (ha:Nm ts.length e a) (hb:Nm ts.length f b) (he:e + f <= lm ts.length):FnC prog 110 [aa5 ts, nA a, nA b] (nA (sh ts.length (T.add ts.length (dec ts.length a) (T.neg ts.length (dec ts.length b))))):=by
 refine gF0 func110 ?_;refine gc (bms tw ha hb he) ?_;refine gE1 ?_
 first | rfl | (simp; done)
theorem acr {ts:LL} {r e f:Nat} (tw:Tw ts r) {a b:List Rat} (ha:Nm ts.length e a) (hb:Nm ts.length f b) (he:e + f <= lm ts.length):FnC prog 111 [aa5 ts, nA a, nA b] (nA (sh ts.length (T.mul (aae ts) ts.length (dec ts.length a) (dec ts.length b)))):=by
 refine gF0 func111 ?_;refine gc (bl6 tw ha hb he) ?_;refine gE1 ?_
 first | rfl | (simp; done)
theorem atp {ts:LL} {r e:Nat} (tw:Tw ts r) {a:List Rat} (ha:Nm ts.length e a) (he:e <= lm ts.length):FnC prog 19 [aa5 ts, nA a] (i64 (T.sgn (aae ts) ts.length (dec ts.length a))):=by
 refine gF0 func19 ?_;refine gc (bje tw ha he) ?_;refine gE1 ?_
 first | rfl | (simp; done)
theorem aet {ts:LL} {r e f:Nat} (tw:Tw ts r) {a b:List Rat} (ha:Nm ts.length e a) (hb:Nm ts.length f b) (he:e + f + 1 <= lm ts.length):FnC prog 20 [aa5 ts, nA a, nA b] (bl (eqT ts (dec ts.length a) (dec ts.length b))):=by
 refine gF0 func20 ?_;refine gc (bl4 tw ha hb he) ?_;refine gE1 ?_;exact congrArg bl (bjk _)
theorem asa {ts:LL} {r e:Nat} (tw:Tw ts r) {a b c d:List Rat} (ha:Nm ts.length e a) (hb:Nm ts.length e b) (hc:Nm ts.length e c) (hd:Nm ts.length e d) (he:2 * (e + e + kB r ts.length) <= lm ts.length):FnC prog 101 [aa5 ts, ptA a b, ptA c d] (nA (sh ts.length (bbv ts (dec ts.length a) (dec ts.length b) (dec ts.length c) (dec ts.length d)))):=by
 refine gF0 func101 ?_;refine gc (acr tw ha hc oz) ?_;refine gc (acr tw hb hd oz) ?_;refine gc (ayj ▸ air tw (ha.mul tw rfl hc) (hb.mul tw rfl hd) oz) ?_;refine gD ?_;refine gE1 ?_
 first | rfl | (simp; done)
theorem aqi {ts:LL} {r e:Nat} (tw:Tw ts r) {a b c d:List Rat} (ha:Nm ts.length e a) (hb:Nm ts.length e b) (hc:Nm ts.length e c) (hd:Nm ts.length e d) (he:2 * (e + e + kB r ts.length) <= lm ts.length):FnC prog 102 [aa5 ts, ptA a b, ptA c d] (nA (sh ts.length (ao8 ts (dec ts.length a) (dec ts.length b) (dec ts.length c) (dec ts.length d)))):=by
 refine gF0 func102 ?_;refine gc (acr tw ha hd oz) ?_;refine gc (acr tw hb hc oz) ?_;refine gc (anp ▸ af0 tw (ha.mul tw rfl hd) (hb.mul tw rfl hc) oz) ?_;refine gD ?_;refine gE1 ?_
 first | rfl | (simp; done)
theorem aka {ts:LL} {r e:Nat} (tw:Tw ts r) {a b c d:List Rat} (ha:Nm ts.length e a) (hb:Nm ts.length e b) (hc:Nm ts.length e c) (hd:Nm ts.length e d) (he:2 * e <= lm ts.length):FnC prog 38 [aa5 ts, ptA a b, ptA c d] (ptA (sh ts.length (subT ts (dec ts.length a) (dec ts.length c))) (sh ts.length (subT ts (dec ts.length b) (dec ts.length d)))):=by
 refine gF0 func38 ?_;refine gc (af0 tw ha hc oz) ?_;refine gc (af0 tw hb hd oz) ?_;refine gD ?_;refine gE1 ?_
 first | rfl | (simp; done)
theorem ax3 {ts:LL} {r e:Nat} (tw:Tw ts r) {a b c d:List Rat} (ha:Nm ts.length e a) (hb:Nm ts.length e b) (hc:Nm ts.length e c) (hd:Nm ts.length e d) (he:2 * e <= lm ts.length):FnC prog 120 [aa5 ts, ptA a b, ptA c d] (ptA (sh ts.length (T.add ts.length (dec ts.length a) (dec ts.length c))) (sh ts.length (T.add ts.length (dec ts.length b) (dec ts.length d)))):=by
 refine gF0 func120 ?_;refine gc (air tw ha hc oz) ?_;refine gc (air tw hb hd oz) ?_;refine gD ?_;refine gE1 ?_
 first | rfl | (simp; done)
theorem aue {ts:LL} {r e:Nat} (tw:Tw ts r) {a b c d:List Rat} (ha:Nm ts.length e a) (hb:Nm ts.length e b) (hc:Nm ts.length e c) (hd:Nm ts.length e d) (he:2 * (e + e + kB r ts.length) <= lm ts.length):FnC prog 39 [aa5 ts, nA a, nA b, ptA c d] (ptA (sh ts.length (a02 ts (dec ts.length a) (dec ts.length b) (dec ts.length c) (dec ts.length d))) (sh ts.length (azz ts (dec ts.length a) (dec ts.length b) (dec ts.length c) (dec ts.length d)))):=by
 refine gF0 func39 ?_;refine gc (acr tw ha hc oz) ?_;refine gc (acr tw hb hd oz) ?_;refine gc (anp ▸ af0 tw (ha.mul tw rfl hc) (hb.mul tw rfl hd) oz) ?_;refine gc (acr tw hb hc oz) ?_;refine gc (acr tw ha hd oz) ?_;refine gc (ayj ▸ air tw (hb.mul tw rfl hc) (ha.mul tw rfl hd) oz) ?_;refine gD ?_;refine gE1 ?_
 first | rfl | (simp; done)
theorem a3r {x y:Rat} (hx:Qs x) (hy:Qs y):FnC prog 205 [qA x, qA y] (ptA (sh 0 (x:Rat)) (sh 0 (y:Rat))):=by
 refine gF0 func205 ?_;refine gc (a5s hx) ?_;refine gc (a5s hy) ?_;refine gD ?_;refine gE1 ?_
 first | rfl | (simp; done)
theorem bfk {ts:LL} {r e:Nat} (tw:Tw ts r) {a b c d:List Rat} (ha:Nm ts.length e a) (hb:Nm ts.length e b) (hc:Nm ts.length e c) (hd:Nm ts.length e d) {x y:Rat} (hx:Qb e x) (hy:Qb e y) (he:8 * e + 4 * kB r ts.length + 4 <= lm ts.length) :
  FnC prog 204 [aa5 ts,.agg [nA a,nA b,nA c,nA d],qA x,qA y] (ptA (sh ts.length (atX ts (dec ts.length a) (dec ts.length b) (dec ts.length c) x y)) (sh ts.length (atY ts (dec ts.length a) (dec ts.length b) (dec ts.length d) x y))):=by
 have hlm:=ajn ts.length;have nx:=Nm.ofQ ha.five (Cb.one hx);have ny:=Nm.ofQ ha.five (Cb.one hy);have nX:=amr tw ha hb nx ny;have nY:=ang tw ha hb nx ny;have z1:e <= 2 * (e + e + kB r ts.length) + 1:=by omega
 have z2:2 * (2 * (e + e + kB r ts.length) + 1) <= lm ts.length:=a83 he;have hadd:=ax3 tw nX nY (hc.mono z1) (hd.mono z1) z2;refine gF0 func204 ?_;refine gc (a3r (hx.qs oz) (hy.qs oz)) ?_;refine gc (aue tw ha hb nx ny oz) ?_;refine gc hadd ?_;refine gD ?_;refine gE1 ?_;rw [a7t,a9v]; rfl
theorem akb (n:Int) (h:-9223372036854775808 <= n /\ n <= 9223372036854775807):FnC prog 21 [i64 n] (nA (sh 0 ((n:Rat):Rat))):=by
 refine gF0 func21 ?_;refine gc (ahy n h) ?_;refine gc (a5s (apf h)) ?_;refine gE1 ?_
 first | rfl | (simp; done)
theorem apy {ts:LL} {r e:Nat} (tw:Tw ts r) {a b c d p q u v:List Rat} (ha:Nm ts.length e a) (hb:Nm ts.length e b) (hc:Nm ts.length e c) (hd:Nm ts.length e d) (hp:Nm ts.length e p) (hq:Nm ts.length e q) (hu:Nm ts.length e u) (hv:Nm ts.length e v) (he:2 * e + 1 <= lm ts.length) :
  FnC prog 46 [aa5 ts,.agg [nA a,nA b,nA c,nA d],.agg [nA p,nA q,nA u,nA v]] (bl (eqT ts (dec ts.length a) (dec ts.length p) && eqT ts (dec ts.length b) (dec ts.length q) && eqT ts (dec ts.length c) (dec ts.length u) && eqT ts (dec ts.length d) (dec ts.length v))):=by
 refine gF0 func46 ?_;refine gc (aet tw ha hp oz) ?_;refine gcG (fun _=>(aet tw hb hq oz)) ?_;refine gcG (fun _=>(aet tw hc hu oz)) ?_;refine gcG (fun _=>(aet tw hd hv oz)) ?_;refine gE1 ?_;exact congrArg bl (bbh _ _ _ _)
theorem aqe:FnC prog 17 [] (.agg [nA [1], nA [], nA [], nA []]):=by
 refine gF0 func17 ?_;refine gc (ahy 1 oz) ?_;refine gc (a5s (apf (n:=1) oz)) ?_;refine gR ?_;exact adv (.agg (.cons (.refl _) (.cons (.nil _ _ _) (.cons (.nil _ _ _) (.cons (.nil _ _ _) .nil)))) rfl)
end Go.Lw
namespace Go.Lw
open Go.Proofs
def u8 (n:Nat):AV:=.v (.int .u8 n)
theorem arv {p q:Bool} {a b:Nat} {c:Nat} (hp:p = decide (a <= c)) (hq:q = decide (c <= b)):cond p q false = decide (a <= c /\ c <= b):=by
 subst hp; subst hq
 by_cases h:a <= c
 ·simp [h]
 ·simp [h]
theorem bbb (c k:Nat):aaa .geq (c:Int) (k:Int) = decide (k <= c):=by simp only [aaa,decide_eq_decide]; omega
theorem a8e (c k:Nat):aaa .leq (c:Int) (k:Int) = decide (c <= k):=by simp only [aaa,decide_eq_decide]; omega
theorem bet (c:Nat):cond (cond (aaa .geq (c:Int) 97) (aaa .leq (c:Int) 122) false) true (cond (aaa .geq (c:Int) 65) (aaa .leq (c:Int) 90) false) = acp c:=by
 have e1:cond (aaa .geq (c:Int) 97) (aaa .leq (c:Int) 122) false = decide (97 <= c /\ c <= 122):=arv (bbb c 97) (a8e c 122);have e2:cond (aaa .geq (c:Int) 65) (aaa .leq (c:Int) 90) false = decide (65 <= c /\ c <= 90):=arv (bbb c 65) (a8e c 90);rw [e1,e2];unfold acp;cases decide (97 <= c /\ c <= 122) <;> rfl
theorem bec (c:Nat):cond (cond (aaa .geq (c:Int) 65) (aaa .leq (c:Int) 90) false) true (cond (aaa .geq (c:Int) 97) (aaa .leq (c:Int) 122) false) = acp c:=by
 have e1:cond (aaa .geq (c:Int) 97) (aaa .leq (c:Int) 122) false = decide (97 <= c /\ c <= 122):=arv (bbb c 97) (a8e c 122);have e2:cond (aaa .geq (c:Int) 65) (aaa .leq (c:Int) 90) false = decide (65 <= c /\ c <= 90):=arv (bbb c 65) (a8e c 90);rw [e1,e2];unfold acp;cases decide (97 <= c /\ c <= 122) <;> cases decide (65 <= c /\ c <= 90) <;> rfl
theorem a8j (c:Nat):cond (aaa .geq (c:Int) 48) (aaa .leq (c:Int) 57) false = atu c:=arv (bbb c 48) (a8e c 57)
theorem a66 (c:Nat):cond (cond (acp c) true (atu c)) true (aaa .eql (c:Int) 95) = aqs c:=by
 unfold aqs
 have:aaa .eql (c:Int) 95 = decide (c = 95):=by
  rw [Bool.eq_iff_iff]; simp only [aaa,beq_iff_eq,decide_eq_true_eq]; omega
 rw [this];cases acp c <;> cases atu c <;> rfl
theorem als (c:Nat):FnC prog 324 [u8 c] (bl (acp c)):=by
 refine gF0 func324 ?_;refine gE1 ?_;exact congrArg bl (bet c)
theorem av1 (c:Nat):FnC prog 341 [u8 c] (bl (atu c)):=by
 refine gF0 func341 ?_;refine gE1 ?_;exact congrArg bl (a8j c)
theorem ayo (c:Nat):FnC prog 325 [u8 c] (bl (aqs c)):=by
 refine gF0 func325 ?_;refine gc (als c) ?_;refine gcG (fun _=>(av1 c)) ?_;refine gE1 ?_;exact congrArg bl (a66 c)
theorem alo (c:Nat):FnC prog 199 [u8 c] (bl (acp c)):=by
 refine gF0 func199 ?_;refine gE1 ?_;exact congrArg bl (bec c)
theorem avn (c:Nat):FnC prog 201 [u8 c] (bl (atu c)):=by
 refine gF0 func201 ?_;refine gE1 ?_;exact congrArg bl (a8j c)
theorem azg (s:ByteArray) (hs:s.size <= 281474976710656):FnC prog 300 [.v (.string s)] (i64 (ahr s)):=by
 refine gF0 func300 ?_;refine gs (acj rfl rfl rfl (fun h=>ap8 (.opt rfl (o1 h)) (.const _) T9 rfl oz (by have:=a7q h; omega) rfl)) ?_;refine gcG (fun _=>(als (adf s 0))) ?_;refine gC (fun ht11=>?_) (fun ht11=>?_)
 ·have h0:ahr s = 0:=a6i ht11;refine gE1 ?_;rw [h0]; rfl
 ·obtain ⟨h0, h1⟩:=a85 ht11;refine gL1 [0] [] (fun (n:Nat)=>[(3,some (i64 n))]) (fun _=>[]) (fun n=>1 <= n /\ n <= s.size /\ ah3 s 1 (s.size - 1) = ah3 s n (s.size - n)) (fun n=>s.size - n) 1 ⟨le_refl _,h0,rfl⟩ ?_;rintro n ⟨hn1,hn,hw⟩ K1 hK1;refine gs (acj rfl rfl rfl (fun h=>ap8 (.opt rfl (o1 h)) (.opt rfl (o1 h)) T9 rfl oz (by have:=aa9 h; omega) rfl)) ?_;refine gcG (fun _=>(ayo (adf s n))) ?_;refine gC (fun ht21=>?_) (fun ht21=>?_)
  ·have h2:n < s.size /\ aqs (adf s n) = true:=bd2 ht21;refine ga aat ?_;exact gK1 hK1 (n + 1) ⟨by omega,by omega,by rw [hw,show s.size - n = (s.size - (n + 1)) + 1 by omega]; simp only [ah3,h2.2,if_true]⟩
  ·have h2:n < s.size -> aqs (adf s n) = false:=bal ht21
   have h3:ahr s = n:=by
    unfold ahr;rw [if_pos ⟨h0,h1⟩,hw];rcases lt_or_ge n s.size with h | h
    ·rw [show s.size - n = (s.size - (n + 1)) + 1 by omega];simp only [ah3,h2 h,Bool.false_eq_true,if_false]
    ·rw [show s.size - n = 0 by omega]; rfl
   refine gE1 ?_;rw [h3]
theorem agv (s:ByteArray) (hs:s.size <= 281474976710656):FnC prog 245 [.v (.string s)] (bl (amg s)):=by
 refine gF0 func245 ?_;refine gc (azg s hs) ?_;refine gE1 ?_;exact congrArg bl (bbf s)
theorem aqd (s:ByteArray) (i:Nat):FnC prog 200 [.v (.string s), i64 i] (u8 (adf s i)):=by
 refine gF0 func200 ?_;refine gC (fun ht8=>?_) (fun ht8=>?_)
 ·have h0:=aa9 ht8;refine gs (ap8 (.tmp rfl) (.tmp rfl) T9 rfl oz oz rfl) ?_;refine gE1 ?_;rfl
 ·have h0:=a7j ht8;refine gE1 ?_;rw [a3o oz]; rfl
theorem avu (s:ByteArray) (hs:s.size <= 281474976710656):FnC prog 91 [.v (.string s), i64 0] (i64 ((if acp (adf s 0) then ah3 s 0 s.size else 0:Nat))):=by
 refine gF0 func91 ?_;refine gc (aqd s 0) ?_;refine gc (alo (adf s 0)) ?_;refine gC (fun ht9=>?_) (fun ht9=>?_)
 ·have h0 : acp (adf s 0) = false := by simpa using ht9
  refine gE1 ?_;rw [h0]; rfl
 ·have h0 : acp (adf s 0) = true := by simpa using ht9
  refine gL1 [0] [] (fun (n:Nat)=>[(1,some (i64 n))]) (fun _=>[]) (fun n=>n <= s.size /\ ah3 s 0 s.size = ah3 s n (s.size - n)) (fun n=>s.size - n) 0 ⟨zero_le _,rfl⟩ ?_;rintro n ⟨hn,hw⟩ K1 hK1;refine gc (aqd s n) ?_;refine gc (alo (adf s n)) ?_;refine gcG (fun _=>(aqd s n)) ?_;refine gcG (fun _=>(avn (adf s n))) ?_;refine gcG (fun _=>(aqd s n)) ?_;refine gC (fun ht26=>?_) (fun ht26=>?_)
  ·have h1:aqs (adf s n) = true:=(a66 _).symm.trans ht26
   have h2:n < s.size:=by
    rcases lt_or_ge n s.size with h | h
    ·exact h
    ·rw [a3o h] at h1; cases h1
   refine ga aat ?_;exact gK1 hK1 (n + 1) ⟨by omega,by rw [hw,show s.size - n = (s.size - (n + 1)) + 1 by omega]; simp only [ah3,h1,if_true]⟩
  ·have h1:aqs (adf s n) = false:=(a66 _).symm.trans ht26
   have h2:ah3 s 0 s.size = n:=by
    rw [hw];rcases lt_or_ge n s.size with h | h
    ·rw [show s.size - n = (s.size - (n + 1)) + 1 by omega];simp only [ah3,h1,Bool.false_eq_true,if_false]
    ·rw [show s.size - n = 0 by omega]; rfl
   refine gE1 ?_;rw [h0,h2]; rfl
theorem aiv (s:ByteArray) (hs:s.size <= 281474976710656):FnC prog 28 [.v (.string s)] (bl (amg s)):=by
 refine gF0 func28 ?_;refine gcG (fun _=>(avu s hs)) ?_;refine gE1 ?_;exact congrArg bl (a47 s)
end Go.Lw
namespace Go.Lw
open Go.Proofs
theorem ag9 (i:Int) (n:Nat):FnC prog 302 [i64 i, i64 n] (bl (inB i n)):=by
 refine gF0 func302 ?_;refine gE1 ?_;exact congrArg bl (a3e i n)
theorem ate (bs:List Bd) (hbs:∀ b ∈ bs, b.ok) (hl:bs.length <= 281474976710656):FnC prog 246 [.lst 2 (bs.map Bd.av)] (ai2 (aej bs.length (bdE bs))):=by
 refine gF0 func246 ?_;refine gl ?_;refine gL1 [0,11,12] [] (fun (i:Nat)=>[(13,some (i64 i))]) (fun _=>[]) (fun i=>i <= bs.length /\ ∀ j,j < i -> bdE bs j = 0) (fun i=>bs.length - i) 0 ⟨zero_le _,fun j h=>by omega⟩ ?_;rintro i ⟨hi,hj⟩ K1 hK1;refine gC (fun ht14=>?_) (fun ht14=>?_)
 ·have hin:=aa9 ht14;obtain ⟨b,hb⟩:=ab5 hin;have hbd:bs.getD i default = b:=aah hb;have hbo:=hbs b (mem_of_getElem? hb);have hbdup:=ago Bd.name hb;refine gi (aag hb) ?_;refine gc (agv b.name hbo.name) ?_;refine gC (fun ht21=>?_) (fun ht21=>?_)
  ·have h1:=af8 ht21;have e1:bdE bs i = 5:=by unfold bdE; rw [hbd,if_pos h1]
   refine gE1 ?_;rw [aba hin hj (by rw [e1]; decide),e1]; rfl
  ·have h1:=af1 ht21;refine gs (aam (.tmp rfl) (.none _) (.some _ (.tmp rfl) oz) T22 rfl T77 rfl oz (by simp only [length_map]; omega) rfl) ?_;refine ge rfl ?_;refine gL1 [0,3,4,11,12,13] [4] (fun (k:Nat)=>[(25,some (.lst 2 ((bs.take i).map Bd.av))),(26,some (i64 i)),(27,some (i64 k))]) (fun _=>[]) (fun k=>k <= i /\ (bs.take k).any (fun y=>eqS y.name b.name) = false) (fun k=>i - k) 0 ⟨zero_le _,rfl⟩ ?_ (h1:=(.cons rfl (Sub.of (bmf 2 Bd.av bs i)) (.cons rfl (Sub.int (by simp; omega)) (.k .nil))));rintro k ⟨hk,hd⟩ K2 hK2;refine gC (fun ht28=>?_) (fun ht28=>?_)
   ·have hkn:=aa9 ht28;obtain ⟨y,hy'⟩:∃ y,(bs.take i)[k]? = some y:=ab5 (by simp; omega);have hy:=(amv hy').1;refine gi (aag hy') ?_;refine gC (fun ht35=>?_) (fun ht35=>?_)
    ·have h2:eqS y.name b.name = true:=ht35;have e1:bdE bs i = 6:=by unfold bdE; rw [hbd,if_neg (by rw [h1]; decide),if_pos (by rw [hbdup]; exact ah6 hy hkn h2)]
     refine gE1 ?_;rw [aba hin hj (by rw [e1]; decide),e1]; rfl
    ·have h2:eqS y.name b.name = false:=ht35;refine ga aat ?_;exact gK1 hK2 (k + 1) ⟨hkn,afc hy hd h2⟩
   ·have hkn:=aan hk ht28;subst hkn;have hnd:¬ ayi (bs.map Bd.name) k = true:=by rw [hbdup,hd]; decide
    refine gl ?_;refine gC (fun ht41=>?_) (fun ht41=>?_)
    ·have h3:8 < b.pts.length:=an2 ht41;have e1:bdE bs k = 4:=by unfold bdE; rw [hbd,if_neg (by rw [h1]; decide),if_neg hnd,if_pos h3]
     refine gE1 ?_;rw [aba hin hj (by rw [e1]; decide),e1]; rfl
    ·have h3:b.pts.length <= 8:=apu ht41;have e1:bdE bs k = aej b.pts.length (mkE b.pts):=by unfold bdE; rw [hbd,if_neg (by rw [h1]; decide),if_neg hnd,if_neg oz]
     refine gl ?_;refine gL1 [0,4,11,12,13,44,45] [4] (fun (p:Nat)=>[(46,some (i64 p))]) (fun _=>[]) (fun p=>p <= b.pts.length /\ ∀ j,j < p -> mkE b.pts j = 0) (fun p=>b.pts.length - p) 0 ⟨zero_le _,fun j h=>by omega⟩ ?_;rintro p ⟨hp,hpj⟩ K3 hK3;refine gC (fun ht47=>?_) (fun ht47=>?_)
     ·have hpn:=aa9 ht47;obtain ⟨m,hm⟩:=ab5 hpn;have hmd:b.pts.getD p default = m:=aah hm;have hmm:=mem_of_getElem? hm;have hmdup:=ago Mk.name hm;have hmo:=hbo.pts m hmm;refine gi (aag hm) ?_;refine gc (agv m.name (hbo.names m hmm)) ?_;refine gC (fun ht54=>?_) (fun ht54=>?_)
      ·have h4:=af8 ht54;have e2:mkE b.pts p = 5:=by unfold mkE; rw [hmd,if_pos h4]
       have e3:bdE bs k = 5:=by rw [e1,aba hpn hpj (by rw [e2]; decide),e2]
       refine gE1 ?_;rw [aba hin hj (by rw [e3]; decide),e3]; rfl
      ·have h4:=af1 ht54;refine gs (aam (.tmp rfl) (.none _) (.some _ (.tmp rfl) oz) T75 rfl T79 rfl oz (by simp only [length_map]; omega) rfl) ?_;refine ge rfl ?_;refine gL1 [0,4,8,11,12,13,44,45,46] [4,8] (fun (q:Nat)=>[(59,some (.lst 7 ((b.pts.take p).map Mk.av))),(60,some (i64 p)),(61,some (i64 q))]) (fun _=>[]) (fun q=>q <= p /\ (b.pts.take q).any (fun y=>eqS y.name m.name) = false) (fun q=>p - q) 0 ⟨zero_le _,rfl⟩ ?_ (h1:=(.cons rfl (Sub.of (bmf 7 Mk.av b.pts p)) (.cons rfl (Sub.int (by simp; omega)) (.k .nil))));rintro q ⟨hq,hqd⟩ K4 hK4;refine gC (fun ht62=>?_) (fun ht62=>?_)
       ·have hqn:=aa9 ht62;obtain ⟨y,hy'⟩:∃ y,(b.pts.take p)[q]? = some y:=ab5 (by simp; omega);have hy:=(amv hy').1;refine gi (aag hy') ?_;refine gC (fun ht69=>?_) (fun ht69=>?_)
        ·have h5:eqS y.name m.name = true:=ht69;have e2:mkE b.pts p = 6:=by unfold mkE; rw [hmd,if_neg (by rw [h4]; decide),if_pos (by rw [hmdup]; exact ah6 hy hqn h5)]
         have e3:bdE bs k = 6:=by rw [e1,aba hpn hpj (by rw [e2]; decide),e2]
         refine gE1 ?_;rw [aba hin hj (by rw [e3]; decide),e3]; rfl
        ·have h5:eqS y.name m.name = false:=ht69;refine ga aat ?_;exact gK1 hK4 (q + 1) ⟨hqn,afc hy hqd h5⟩
       ·have hqn:=aan hq ht62;subst hqn;have hmnd:¬ ayi (b.pts.map Mk.name) q = true:=by rw [hmdup,hqd]; decide
        refine gc (adn m.x hmo.x) ?_;refine gcG (fun _=>(adn m.y hmo.y)) ?_;refine gC (fun ht81=>?_) (fun ht81=>?_)
        ·have h6:=bim ht81;have e2:mkE b.pts q = 3:=by unfold mkE; rw [hmd,if_neg (by rw [h4]; decide),if_neg hmnd,if_neg (by rintro ⟨g1,g2⟩; rcases h6 with g | g; (rw [g1] at g; cases g); (rw [g2] at g; cases g))]
         have e3:bdE bs k = 3:=by rw [e1,aba hpn hpj (by rw [e2]; decide),e2]
         refine gE1 ?_;rw [aba hin hj (by rw [e3]; decide),e3]; rfl
        ·have h6:=bil ht81;have e2:mkE b.pts q = 0:=by unfold mkE; rw [hmd,if_neg (by rw [h4]; decide),if_neg hmnd,if_pos h6]
         refine ga aat ?_;exact gK1 hK3 (q + 1) ⟨hpn,fun j h9=>by rcases lt_or_ge j q with g | g; exact hpj j g; (have:j = q:=by omega); subst this; exact e2⟩
     ·have hpn:=aan hp ht47;subst hpn;have e2:bdE bs k = 0:=e1.trans (ae0 hpj);refine ga aat ?_;exact gK1 hK1 (k + 1) ⟨hin,fun j h9=>by rcases lt_or_ge j k with g | g; exact hj j g; (have:j = k:=by omega); subst this; exact e2⟩
 ·have hin:=aan hi ht14;subst hin;refine gE1 ?_;rw [ae0 hj]; rfl
end Go.Lw
namespace Go.Lw
open Go.Proofs
theorem avd (l:Li) (hl:l.ok) (j:Jt):FnC prog 301 [l.av, j.av] (ai2 (jt0 l j)):=by
 refine gF0 func301 ?_;refine gC (fun ht15=>?_) (fun ht15=>?_)
 ·have h1:=bgt ht15;refine gE1 ?_;unfold jt0; rw [if_pos h1]; rfl
 ·have h1:=bgn ht15;refine gl ?_;refine gc (ag9 j.a l.bodies.length) ?_;refine glG ?_;refine gcG (fun _=>(ag9 j.b l.bodies.length)) ?_;refine gC (fun ht32=>?_) (fun ht32=>?_)
  ·have h2:=bim ht32;refine gE1 ?_;unfold jt0; rw [if_neg h1,if_pos h2]; rfl
  ·have h2:=bil ht32;have h2n:¬ (inB j.a l.bodies.length = false \/ inB j.b l.bodies.length = false):=by rw [h2.1,h2.2]; simp
   obtain ⟨A,hA,pA,mA,zA0⟩:=atr h2.1;obtain ⟨B,hB,pB,mB,zB0⟩:=atr h2.2;refine gC (fun ht38=>?_) (fun ht38=>?_)
   ·have h3:=aco ht38;refine gE1 ?_;unfold jt0; rw [if_neg h1,if_neg h2n,if_pos h3]; rfl
   ·have h3:=ac5 ht38;refine gi (aag hB) ?_;refine gi (aag hA) ?_;refine gl ?_;refine gc (ag9 j.point A.pts.length) ?_;refine glG ?_;refine gcG (fun _=>(ag9 j.on B.pts.length)) ?_;refine gD ?_;refine gC (fun ht66=>?_) (fun ht66=>?_)
    ·have h4:=bim ht66;refine gE1 ?_;unfold jt0; rw [if_neg h1,if_neg h2n,if_neg h3,pA,pB,if_pos h4]; rfl
    ·have h4:=bil ht66;have h4n:¬ (inB j.point A.pts.length = false \/ inB j.on B.pts.length = false):=by rw [h4.1,h4.2]; simp
     refine gC (fun ht70=>?_) (fun ht70=>?_)
     ·have h5:=aco ht70;refine gC (fun ht73=>?_) (fun ht73=>?_)
      ·have h6:=ay5 ht73;refine gE1 ?_;unfold jt0; rw [if_neg h1,if_neg h2n,if_neg h3,pA,pB,if_neg h4n,if_pos h5,if_pos h6]; rfl
      ·have h6:=a9h ht73;refine gE1 ?_;unfold jt0; rw [if_neg h1,if_neg h2n,if_neg h3,pA,pB,if_neg h4n,if_pos h5,if_neg (by rw [h6]; simp)]; rfl
     ·have h5:=ac5 ht70;refine gl ?_;refine gc (ag9 j.to B.pts.length) ?_;refine gC (fun ht80=>?_) (fun ht80=>?_)
      ·have h6:=af8 ht80;refine gE1 ?_;unfold jt0; rw [if_neg h1,if_neg h2n,if_neg h3,pA,pB,if_neg h4n,if_neg h5,if_pos h6]; rfl
      ·have h6:=af1 ht80;obtain ⟨m1,g1,d1,mm1,z1⟩:=aww h4.2;obtain ⟨m2,g2,d2,mm2,z2⟩:=aww h6;have mo1:=(hl.bodies B mB).pts m1 mm1;have mo2:=(hl.bodies B mB).pts m2 mm2;refine gi (aag g1) ?_;refine gi (aag g2) ?_;refine gD ?_;refine gc (alr m1.x m2.x mo1.x mo2.x) ?_;refine gcG (fun _=>(alr m1.y m2.y mo1.y mo2.y)) ?_;refine gC (fun ht105=>?_) (fun ht105=>?_)
       ·have h7:=bgo ht105;refine gE1 ?_;unfold jt0; rw [if_neg h1,if_neg h2n,if_neg h3,pA,pB,if_neg h4n,if_neg h5,if_neg (by rw [h6]; decide),d1,d2,if_pos h7]; rfl
       ·have h7:=bfu ht105;refine gE1 ?_;unfold jt0; rw [if_neg h1,if_neg h2n,if_neg h3,pA,pB,if_neg h4n,if_neg h5,if_neg (by rw [h6]; decide),d1,d2,if_neg h7]; rfl
theorem as6 (l:Li) (hl:l.ok):FnC prog 247 [l.av] (ai2 (ase l)):=by
 have hlj:=hl.lj;refine gF0 func247 ?_;refine gl ?_;refine gC (fun ht11=>?_) (fun ht11=>?_)
 ·have h0:16 < l.joints.length:=an2 ht11;refine gE1 ?_;unfold ase; rw [if_pos h0]; rfl
 ·have h0:l.joints.length <= 16:=apu ht11;have e0:ase l = aej l.joints.length (jtE l):=by unfold ase; rw [if_neg oz]
  refine gl ?_;refine gL1 [1,14,15] [1] (fun (i:Nat)=>[(16,some (i64 i))]) (fun _=>[]) (fun i=>i <= l.joints.length /\ ∀ j,j < i -> jtE l j = 0) (fun i=>l.joints.length - i) 0 ⟨zero_le _,fun j h=>by omega⟩ ?_;rintro i ⟨hi,hj⟩ K1 hK1;refine gC (fun ht17=>?_) (fun ht17=>?_)
  ·have hin:=aa9 ht17;obtain ⟨b,hb⟩:=ab5 hin;have hbd:l.joints.getD i default = b:=aah hb;have hbdup:=ago Jt.name hb;refine gi (aag hb) ?_;refine gc (agv b.name (hl.jnames b (mem_of_getElem? hb))) ?_;refine gC (fun ht24=>?_) (fun ht24=>?_)
   ·have h1:=af8 ht24;have e1:jtE l i = 5:=by unfold jtE; rw [hbd,if_pos h1]
    refine gE1 ?_;rw [e0,aba hin hj (by rw [e1]; decide),e1]; rfl
   ·have h1:=af1 ht24;refine gs (aam (.tmp rfl) (.none _) (.some _ (.tmp rfl) oz) T23 rfl T126 rfl oz (by simp only [length_map]; omega) rfl) ?_;refine ge rfl ?_;refine gL1 [1,3,4,14,15,16] [1,4] (fun (k:Nat)=>[(29,some (.lst 7 ((l.joints.take i).map Jt.av))),(30,some (i64 i)),(31,some (i64 k))]) (fun _=>[]) (fun k=>k <= i /\ (l.joints.take k).any (fun y=>eqS y.name b.name) = false) (fun k=>i - k) 0 ⟨zero_le _,rfl⟩ ?_ (h1:=(.cons rfl (Sub.of (bmf 7 Jt.av l.joints i)) (.cons rfl (Sub.int (by simp; omega)) (.k .nil))));rintro k ⟨hk,hd⟩ K2 hK2;refine gC (fun ht32=>?_) (fun ht32=>?_)
    ·have hkn:=aa9 ht32;obtain ⟨y,hy'⟩:∃ y,(l.joints.take i)[k]? = some y:=ab5 (by simp; omega);have hy:=(amv hy').1;refine gi (aag hy') ?_;refine gC (fun ht39=>?_) (fun ht39=>?_)
     ·have h2:eqS y.name b.name = true:=ht39;have e1:jtE l i = 6:=by unfold jtE; rw [hbd,if_neg (by rw [h1]; decide),if_pos (by rw [hbdup]; exact ah6 hy hkn h2)]
      refine gE1 ?_;rw [e0,aba hin hj (by rw [e1]; decide),e1]; rfl
     ·have h2:eqS y.name b.name = false:=ht39;refine ga aat ?_;exact gK1 hK2 (k + 1) ⟨hkn,afc hy hd h2⟩
    ·have hkn:=aan hk ht32;subst hkn;have hnd:¬ ayi (l.joints.map Jt.name) k = true:=by rw [hbdup,hd]; decide
     have e1:jtE l k = jt0 l b:=by unfold jtE; rw [hbd,if_neg (by rw [h1]; decide),if_neg hnd]
     refine gc (avd l hl b) ?_;refine gC (fun ht46=>?_) (fun ht46=>?_)
     ·have h3:=aeq ht46;refine gE1 ?_;rw [e0,aba hin hj (by rw [e1]; exact h3),e1]
     ·have h3:=ad1 ht46;refine ga aat ?_;exact gK1 hK1 (k + 1) ⟨hin,fun j h9=>by rcases lt_or_ge j k with g | g; exact hj j g; (have:j = k:=by omega); subst this; exact e1.trans h3⟩
  ·have hin:=aan hi ht17;subst hin;refine gE1 ?_;rw [e0,ae0 hj]; rfl
theorem asu (l:Li) (hl:l.ok):FnC prog 248 [l.av] (ai2 (a0b l)):=by
 have hld:=hl.ld;refine gF0 func248 ?_;refine gl ?_;refine gC (fun ht12=>?_) (fun ht12=>?_)
 ·have h0:2 < l.drivers.length:=an2 ht12;refine gE1 ?_;unfold a0b; rw [if_pos h0]; rfl
 ·have h0:l.drivers.length <= 2:=apu ht12;have e0:a0b l = aej l.drivers.length (drE l):=by unfold a0b; rw [if_neg oz]
  refine gl ?_;refine gL1 [1,15,16] [1] (fun (i:Nat)=>[(17,some (i64 i))]) (fun _=>[]) (fun i=>i <= l.drivers.length /\ ∀ j,j < i -> drE l j = 0) (fun i=>l.drivers.length - i) 0 ⟨zero_le _,fun j h=>by omega⟩ ?_;rintro i ⟨hi,hj⟩ K1 hK1;refine gC (fun ht18=>?_) (fun ht18=>?_)
  ·have hin:=aa9 ht18;obtain ⟨b,hb⟩:=ab5 hin;have hbd:l.drivers.getD i default = b:=aah hb;have hbdup:=ago Dr.name hb;refine gi (aag hb) ?_;refine gc (agv b.name (hl.dnames b (mem_of_getElem? hb))) ?_;refine gC (fun ht25=>?_) (fun ht25=>?_)
   ·have h1:=af8 ht25;have e1:drE l i = 5:=by unfold drE; rw [hbd,if_pos h1]
    refine gE1 ?_;rw [e0,aba hin hj (by rw [e1]; decide),e1]; rfl
   ·have h1:=af1 ht25;refine gs (aam (.tmp rfl) (.none _) (.some _ (.tmp rfl) oz) T24 rfl T128 rfl oz (by simp only [length_map]; omega) rfl) ?_;refine ge rfl ?_;refine gL1 [1,3,4,15,16,17] [1,4] (fun (k:Nat)=>[(30,some (.lst 2 ((l.drivers.take i).map Dr.av))),(31,some (i64 i)),(32,some (i64 k))]) (fun _=>[]) (fun k=>k <= i /\ (l.drivers.take k).any (fun y=>eqS y.name b.name) = false) (fun k=>i - k) 0 ⟨zero_le _,rfl⟩ ?_ (h1:=(.cons rfl (Sub.of (bmf 2 Dr.av l.drivers i)) (.cons rfl (Sub.int (by simp; omega)) (.k .nil))));rintro k ⟨hk,hd⟩ K2 hK2;refine gC (fun ht33=>?_) (fun ht33=>?_)
    ·have hkn:=aa9 ht33;obtain ⟨y,hy'⟩:∃ y,(l.drivers.take i)[k]? = some y:=ab5 (by simp; omega);have hy:=(amv hy').1;refine gi (aag hy') ?_;refine gC (fun ht40=>?_) (fun ht40=>?_)
     ·have h2:eqS y.name b.name = true:=ht40;have e1:drE l i = 6:=by unfold drE; rw [hbd,if_neg (by rw [h1]; decide),if_pos (by rw [hbdup]; exact ah6 hy hkn h2)]
      refine gE1 ?_;rw [e0,aba hin hj (by rw [e1]; decide),e1]; rfl
     ·have h2:eqS y.name b.name = false:=ht40;refine ga aat ?_;exact gK1 hK2 (k + 1) ⟨hkn,afc hy hd h2⟩
    ·have hkn:=aan hk ht33;subst hkn;have hnd:¬ ayi (l.drivers.map Dr.name) k = true:=by rw [hbdup,hd]; decide
     refine gl ?_;refine gc (ag9 b.body l.bodies.length) ?_;refine gC (fun ht49=>?_) (fun ht49=>?_)
     ·have h3:=af8 ht49;have e1:drE l k = 9:=by unfold drE; rw [hbd,if_neg (by rw [h1]; decide),if_neg hnd,if_pos h3]
      refine gE1 ?_;rw [e0,aba hin hj (by rw [e1]; decide),e1]; rfl
     ·have h3:=af1 ht49;refine gC (fun ht53=>?_) (fun ht53=>?_)
      ·have h4:=aco ht53;have e1:drE l k = 7:=by unfold drE; rw [hbd,if_neg (by rw [h1]; decide),if_neg hnd,if_neg (by rw [h3]; decide),if_pos h4]
       refine gE1 ?_;rw [e0,aba hin hj (by rw [e1]; decide),e1]; rfl
      ·have h4:=ac5 ht53;have e1:drE l k = if (l.drivers.take k).any (fun d=>decide (d.body = b.body)) = true then 6 else 0:=by unfold drE; rw [hbd,if_neg (by rw [h1]; decide),if_neg hnd,if_neg (by rw [h3]; decide),if_neg h4]
       refine gs (aam (.tmp rfl) (.none _) (.some _ (.tmp rfl) oz) T24 rfl T128 rfl oz (by simp only [length_map]; omega) rfl) ?_;refine ge rfl ?_;refine gL1 [1,4,15,16,17] [1,4] (fun (q:Nat)=>[(58,some (.lst 2 ((l.drivers.take k).map Dr.av))),(59,some (i64 k)),(60,some (i64 q))]) (fun _=>[]) (fun q=>q <= k /\ (l.drivers.take q).any (fun d=>decide (d.body = b.body)) = false) (fun q=>k - q) 0 ⟨zero_le _,rfl⟩ ?_ (h1:=(.cons rfl (Sub.of (bmf 2 Dr.av l.drivers k)) (.cons rfl (Sub.int (by simp; omega)) (.k .nil))));rintro q ⟨hq,hqd⟩ K3 hK3;refine gC (fun ht61=>?_) (fun ht61=>?_)
       ·have hqn:=aa9 ht61;obtain ⟨y,hy'⟩:∃ y,(l.drivers.take k)[q]? = some y:=ab5 (by simp; omega);have hy:=(amv hy').1;refine gi (aag hy') ?_;refine gC (fun ht68=>?_) (fun ht68=>?_)
        ·have h5:decide (y.body = b.body) = true:=decide_eq_true (aco ht68);have e2:drE l k = 6:=by rw [e1,if_pos (ah6 hy hqn h5)]
         refine gE1 ?_;rw [e0,aba hin hj (by rw [e2]; decide),e2]; rfl
        ·have h5:decide (y.body = b.body) = false:=decide_eq_false (ac5 ht68);refine ga aat ?_;exact gK1 hK3 (q + 1) ⟨hqn,afc hy hqd h5⟩
       ·have hqn:=aan hq ht61;subst hqn;have e2:drE l q = 0:=by rw [e1,hqd]; rfl
        refine ga aat ?_;exact gK1 hK1 (q + 1) ⟨hin,fun j h9=>by rcases lt_or_ge j q with g | g; exact hj j g; (have:j = q:=by omega); subst this; exact e2⟩
  ·have hin:=aan hi ht18;subst hin;refine gE1 ?_;rw [e0,ae0 hj]; rfl
theorem am4 (l:Li) (hl:l.ok):FnC prog 159 [l.av] (ai2 (liE l)):=by
 have hlb:=hl.lb;refine gF0 func159 ?_;refine gc (agv l.name hl.name) ?_;refine gC (fun ht8=>?_) (fun ht8=>?_)
 ·have h1:=af8 ht8;refine gE1 ?_;unfold liE; rw [if_pos h1]; rfl
 ·have h1:=af1 ht8;refine gl ?_;refine gC (fun ht13=>?_) (fun ht13=>?_)
  ·have h2:=bgp ht13;refine gE1 ?_;unfold liE; rw [if_neg (by rw [h1]; decide),if_pos h2]; rfl
  ·have h2:=bgz ht13;refine gl ?_;refine gC (fun ht18=>?_) (fun ht18=>?_)
   ·have h3:8 < l.bodies.length:=an2 ht18;refine gE1 ?_;unfold liE; rw [if_neg (by rw [h1]; decide),if_neg h2,if_pos h3]; rfl
   ·have h3:l.bodies.length <= 8:=apu ht18;have e0:liE l = if a1n l ≠ 0 then a1n l else if ase l ≠ 0 then ase l else a0b l:=by unfold liE; rw [if_neg (by rw [h1]; decide),if_neg h2,if_neg oz]
    refine gc (ate l.bodies hl.bodies hlb) ?_;refine gC (fun ht24=>?_) (fun ht24=>?_)
    ·have h4:a1n l ≠ 0:=aeq ht24;refine gE1 ?_;rw [e0,if_pos h4]; rfl
    ·have h4:a1n l = 0:=ad1 ht24;refine gc (as6 l hl) ?_;refine gC (fun ht29=>?_) (fun ht29=>?_)
     ·have h5:=aeq ht29;refine gE1 ?_;rw [e0,if_neg (by rw [h4]; simp),if_pos h5]
     ·have h5:=ad1 ht29;refine gc (asu l hl) ?_;refine gE1 ?_;rw [e0,if_neg (by rw [h4]; simp),if_neg (by rw [h5]; simp)]
end Go.Lw
namespace Go.Lw
open Go.Proofs
theorem al3 (d:Nat) (hd:Nat.blt d 1000 = true) (l:Li) (hl:l.bodies.length <= 1000) (b:Nat) (hb:b < l.bodies.length) :
  Con prog 124 [l.av,i64 b] [] (.ms d 1 0 l.bodies.length) [(d,some (.row 1 ((aeu l.bodies.length b).map bl)))]:=by
 refine gF func124 (fun k z h=>by cases h) ?_;refine gl ?_;refine gs (agr (.tmp rfl) T185 rfl T4 rfl rfl oz (by dsimp only; omega) rfl) ?_;refine gs (ahi (.tmp rfl) (.tmp rfl) T185 rfl T4 rfl oz oz rfl) ?_;refine gs (abb (.tmp rfl) rfl (by rw [List.getElem?_replicate,if_pos (by simp; omega)]) rfl (.const _) rfl rfl T4 rfl rfl) ?_ (3,0);refine gW (Wk.of (sl:=[(5,some (.ms 9 1 0 l.bodies.length))]) (hp:=[(9,some (.row 1 ((aeu l.bodies.length b).map bl)))]) (.cons rfl (Sub.of (by rw [toNat_natCast])) .nil) (.cons rfl (BlkSub.of (by unfold aeu; simp only [map_set,map_replicate,Nat.zero_add,toNat_natCast]; rfl)) .nil)) ?_ (3,0);refine gW (Wk.rekey (k:=9) (d:=900) rfl rfl) ?_;refine gR ?_;exact Fin.own1 rfl hd rfl
theorem a53 (l:Li) (hl:l.bodies.length <= 1000) (b:Nat) (hb:b < l.bodies.length):FnC prog 124 [l.av, i64 b] (.lst 1 ((aeu l.bodies.length b).map bl)):=by
 have h:=Con.freeze (by rw [length_map,aed]; omega) (al3 0 rfl l hl b hb);rw [drop_zero,take_of_length_le (by rw [length_map,aed]; exact le_refl _)] at h;exact h
theorem awz (l:Li) (hl:l.ok) (b:Int):FnC prog 284 [l.av, i64 b] (bl (aot l b)):=by
 have hld:=hl.ld;refine gF0 func284 ?_;refine gl ?_;refine gL1 [1,8,9] [] (fun (i:Nat)=>[(10,some (i64 i))]) (fun _=>[]) (fun i=>i <= l.drivers.length /\ (l.drivers.take i).any (fun d=>decide (d.body = b)) = false) (fun i=>l.drivers.length - i) 0 ⟨zero_le _,rfl⟩ ?_;rintro i ⟨hi,hj⟩ K1 hK1;refine gC (fun ht11=>?_) (fun ht11=>?_)
 ·have hin:=aa9 ht11;obtain ⟨d,hd⟩:=ab5 hin;refine gi (aag hd) ?_;refine gC (fun ht17=>?_) (fun ht17=>?_)
  ·have h1:d.body = b:=aco ht17;refine gE1 ?_;unfold aot; rw [List.any_eq_true.2 ⟨d,mem_of_getElem? hd,decide_eq_true h1⟩]; rfl
  ·have h1:d.body ≠ b:=ac5 ht17;refine ga aat ?_;exact gK1 hK1 (i + 1) ⟨hin,afc hd hj (decide_eq_false h1)⟩
 ·have hin:=aan hi ht11;subst hin;rw [take_length] at hj;refine gE1 ?_;unfold aot; rw [hj]; rfl
theorem ar6 (l:Li) (hl:l.ok) (hli:liE l = 0) (kind body:Int) (oth:List Bool) (ho:oth.length = l.bodies.length):FnC prog 220 [l.av, i64 kind, i64 body, .lst 1 (oth.map bl)] (i64 (abu l kind body oth)):=by
 have hlj:=hl.lj;refine gF0 func220 ?_;refine gl ?_;refine gL1 [1,2,3,12,13] [] (fun (i:Nat)=>[(14,some (i64 i))]) (fun _=>[]) (fun i=>i <= l.joints.length /\ ∀ j,j < i -> (!bbw kind body oth (l.joints.getD j default)) = true) (fun i=>l.joints.length - i) 0 ⟨zero_le _,fun j h=>by omega⟩ ?_;rintro i ⟨hi,hj⟩ K1 hK1;refine gC (fun ht15=>?_) (fun ht15=>?_)
 ·have hin:=aa9 ht15;obtain ⟨j,hjt⟩:=ab5 hin;have hjd:l.joints.getD i default = j:=aah hjt;obtain ⟨i1,i2,_⟩:=afv hli hjt;have b1:=aiz i1;have b2:=aiz i2;obtain ⟨va,hva⟩:∃ v,oth[j.a.toNat]? = some v:=ab5 oz;obtain ⟨vb,hvb⟩:∃ v,oth[j.b.toNat]? = some v:=ab5 oz;have ea:kn oth j.a = va:=aah hva;have eb:kn oth j.b = vb:=aah hvb;refine gi (aag hjt) ?_;refine giG (fun _=>(afj (n:=j.b.toNat) oz hvb)) ?_;refine giG (fun _=>(afj (n:=j.a.toNat) oz hva)) ?_;refine gC (fun ht48=>?_) (fun ht48=>?_)
  ·have h2 : bbw kind body oth j = true := by rw [<- axf (va := va) (vb := vb) ea eb]; exact ht48
   refine gE1 ?_;unfold abu; rw [ac2 hin hj (by rw [hjd,h2]; rfl)]; rfl
  ·have h2 : bbw kind body oth j = false := by rw [<- axf (va := va) (vb := vb) ea eb]; exact ht48
   refine ga aat ?_;exact gK1 hK1 (i + 1) ⟨hin,fun k h9=>by rcases lt_or_ge k i with g | g; exact hj k g; (have:k = i:=by omega); subst this; rw [hjd,h2]; rfl⟩
 ·have hin:=aan hi ht15;subst hin;refine gE1 ?_;unfold abu; rw [acg hj]; rfl
theorem a4y (l:Li) (hl:l.ok) (known:List Bool) (b:Nat) (hb:b < known.length):FnC prog 221 [l.av, .lst 1 (known.map bl), i64 b] (bl (ah2 l known b)):=by
 obtain ⟨v,hv⟩:=ab5 hb;have ev:kn known (b:Int) = v:=aah (by rw [toNat_natCast]; exact hv);refine gF0 func221 ?_;refine gi (aag hv) ?_;refine gcG (fun _=>(awz l hl b)) ?_;refine gE1 ?_;unfold ah2; rw [ev]; exact congrArg bl (aes _ _)
end Go.Lw
