/- RecomputeNil: for any linkage and any turns the law returns true and leaves its arguments as they were. No other condition. Part 5 of 6: what the later parts need -/
import Derived.Test.YtjidoooidfcjgaaGreatWd
import Derived.Test.YtjidoooidfcjgaaGreatRows
import Derived.Laws.Cover3
import Derived.Laws.Pointers
set_option linter.unusedVariables false
open List (mem_of_getElem? mem_cons_of_mem map_cons mem_cons length_cons mem_cons_self length_append length_nil getD_eq_getElem?_getD getElem?_eq_none all_eq_true getElem?_take getElem?_drop getElem?_map getElem?_eq_getElem length_take length_map map_map not_mem_nil)
open Nat (eq_of_beq_eq_true le_refl lt_of_lt_of_le lt_or_ge le_trans zero_le)
open Option (map_eq_some_iff)
open Bool (and_eq_true)
open Array (getD_eq_getD_getElem?)
open Go.Proofs.Tryz
namespace Go.Lw
open Go.Proofs
def u8 (n : Nat) : AV := .v (.int .u8 n)
theorem ast {p q : Bool} {a b : Nat} {c : Nat} (hp : p = decide (a <= c)) (hq : q = decide (c <= b)) : cond p q false = decide (a <= c /\ c <= b) := by
 subst hp; subst hq
 by_cases h : a <= c
 ·simp [h]
 ·simp [h]
theorem a56 (c k : Nat) : aab .geq (c : Int) (k : Int) = decide (k <= c):=by simp only [aab,decide_eq_decide]; omega
theorem a7a (c k : Nat) : aab .leq (c : Int) (k : Int) = decide (c <= k):=by simp only [aab,decide_eq_decide]; omega
theorem a2y (c : Nat) : cond (cond (aab .geq (c : Int) 97) (aab .leq (c : Int) 122) false) true (cond (aab .geq (c : Int) 65) (aab .leq (c : Int) 90) false) = adz c := by
 have e1 : cond (aab .geq (c : Int) 97) (aab .leq (c : Int) 122) false = decide (97 <= c /\ c <= 122) := ast (a56 c 97) (a7a c 122)
 have e2 : cond (aab .geq (c : Int) 65) (aab .leq (c : Int) 90) false = decide (65 <= c /\ c <= 90) := ast (a56 c 65) (a7a c 90)
 rw [e1,e2]
 unfold adz
 cases decide (97 <= c /\ c <= 122) <;> rfl
theorem a5z (c : Nat) : cond (aab .geq (c : Int) 48) (aab .leq (c : Int) 57) false = ap7 c := ast (a56 c 48) (a7a c 57)
theorem ba5 (c : Nat) : cond (cond (adz c) true (ap7 c)) true (aab .eql (c : Int) 95) = an8 c := by
 unfold an8
 have : aab .eql (c : Int) 95 = decide (c = 95) := by
  rw [Bool.eq_iff_iff]; simp only [aab,beq_iff_eq,decide_eq_true_eq]; omega
 rw [this]
 cases adz c <;> cases ap7 c <;> rfl
theorem ahr (c : Nat) : FnC prog 372 [u8 c] (bl (adz c)) := by
 refine gF0 func372 ?_
 refine gE1 ?_
 exact congrArg bl (a2y c)
theorem apg (c : Nat) : FnC prog 410 [u8 c] (bl (ap7 c)) := by
 refine gF0 func410 ?_
 refine gE1 ?_
 exact congrArg bl (a5z c)
theorem aqq (c : Nat) : FnC prog 373 [u8 c] (bl (an8 c)) := by
 refine gF0 func373 ?_
 refine gc (ahr c) ?_
 refine gcG (fun _ => (apg c)) ?_
 refine gE1 ?_
 exact congrArg bl (ba5 c)
theorem aq8 (s : ByteArray) (hs : s.size <= 281474976710656) : FnC prog 300 [.v (.string s)] (i64 (aey s)) := by
 refine gF0 func300 ?_
 refine gs (ab6 rfl rfl rfl (fun h => aks (.opt rfl (o1 h)) (.const _) T9 rfl (by omega) (by have := a0c h; omega) rfl)) ?_
 refine gcG (fun _ => (ahr (age s 0))) ?_
 refine gC (fun ht11 => ?_) (fun ht11 => ?_)
 ·have h0 : aey s = 0 := azt ht11
  refine gE1 ?_
  rw [h0]; rfl
 ·obtain ⟨h0, h1⟩ := axq ht11
  refine gL1 [0] [] (fun (n : Nat) => [(3,some (i64 n))]) (fun _ => []) (fun n => 1 <= n /\ n <= s.size /\ ako s 1 (s.size - 1) = ako s n (s.size - n)) (fun n => s.size - n) 1 ⟨le_refl _,h0,rfl⟩ ?_
  rintro n ⟨hn1,hn,hw⟩ K1 hK1
  refine gs (ab6 rfl rfl rfl (fun h => aks (.opt rfl (o1 h)) (.opt rfl (o1 h)) T9 rfl (by omega) (by have := ac3 h; omega) rfl)) ?_
  refine gcG (fun _ => (aqq (age s n))) ?_
  refine gC (fun ht21 => ?_) (fun ht21 => ?_)
  ·have h2 : n < s.size /\ an8 (age s n) = true := a3g ht21
   refine ga abn ?_
   exact gK1 hK1 (n + 1) ⟨by omega,by omega,by rw [hw,show s.size - n = (s.size - (n + 1)) + 1 by omega]; simp only [ako,h2.2,if_true]⟩
  ·have h2 : n < s.size -> an8 (age s n) = false := a05 ht21
   have h3 : aey s = n := by
    unfold aey
    rw [if_pos ⟨h0,h1⟩,hw]
    rcases lt_or_ge n s.size with h | h
    ·rw [show s.size - n = (s.size - (n + 1)) + 1 by omega]
     simp only [ako,h2 h,Bool.false_eq_true,if_false]
    ·rw [show s.size - n = 0 by omega]; rfl
   refine gE1 ?_
   rw [h3]
theorem ad8 (s : ByteArray) (hs : s.size <= 281474976710656) : FnC prog 198 [.v (.string s)] (bl (aou s)) := by
 refine gF0 func198 ?_
 refine gc (aq8 s hs) ?_
 refine gE1 ?_
 exact congrArg bl (a0x s)
end Go.Lw
namespace Go.Lw
open Go.Proofs
theorem aeh (i : Int) (n : Nat) : FnC prog 302 [i64 i, i64 n] (bl (inB i n)) := by
 refine gF0 func302 ?_
 refine gE1 ?_
 exact congrArg bl (a16 i n)
theorem am2 (bs : List Bd) (hbs : ∀ b ∈ bs, b.ok) (hl : bs.length <= 281474976710656) : FnC prog 199 [.lst 2 (bs.map Bd.av)] (ahg (aen bs.length (bdE bs))) := by
 refine gF0 func199 ?_
 refine gl ?_
 refine gL1 [0,11,12] [] (fun (i : Nat) => [(13,some (i64 i))]) (fun _ => []) (fun i => i <= bs.length /\ ∀ j,j < i -> bdE bs j = 0) (fun i => bs.length - i) 0 ⟨zero_le _,fun j h => by omega⟩ ?_
 rintro i ⟨hi,hj⟩ K1 hK1
 refine gC (fun ht14 => ?_) (fun ht14 => ?_)
 ·have hin := ac3 ht14
  obtain ⟨b,hb⟩ := aeg hin
  have hbd : bs.getD i default = b := abp hb
  have hbo := hbs b (mem_of_getElem? hb)
  have hbdup := ai0 Bd.name hb
  refine gi (aaq hb) ?_
  refine gc (ad8 b.name hbo.name) ?_
  refine gC (fun ht21 => ?_) (fun ht21 => ?_)
  ·have h1 := akq ht21
   have e1 : bdE bs i = 5:=by unfold bdE; rw [hbd,if_pos h1]
   refine gE1 ?_
   rw [abl hin hj (by rw [e1]; decide),e1]; rfl
  ·have h1 := akj ht21
   refine gs (aaj (.tmp rfl) (.none _) (.some _ (.tmp rfl) (by omega)) T22 rfl T118 rfl (by omega) (by simp only [length_map]; omega) rfl) ?_
   refine ge rfl ?_
   refine gL1 [0,3,4,11,12,13] [4] (fun (k : Nat) => [(25,some (.lst 2 ((bs.take i).map Bd.av))),(26,some (i64 i)),(27,some (i64 k))]) (fun _ => []) (fun k => k <= i /\ (bs.take k).any (fun y => eqS y.name b.name) = false) (fun k => i - k) 0 ⟨zero_le _,rfl⟩ ?_ (h1 := (.cons rfl (Sub.of (bbk 2 Bd.av bs i)) (.cons rfl (Sub.int (by simp; omega)) (.k .nil))))
   rintro k ⟨hk,hd⟩ K2 hK2
   refine gC (fun ht28 => ?_) (fun ht28 => ?_)
   ·have hkn := ac3 ht28
    obtain ⟨y,hy'⟩ : ∃ y,(bs.take i)[k]? = some y := aeg (by simp; omega)
    have hy := (air hy').1
    refine gi (aaq hy') ?_
    refine gC (fun ht35 => ?_) (fun ht35 => ?_)
    ·have h2 : eqS y.name b.name = true := ht35
     have e1 : bdE bs i = 6:=by unfold bdE; rw [hbd,if_neg (by rw [h1]; decide),if_pos (by rw [hbdup]; exact alw hy hkn h2)]
     refine gE1 ?_
     rw [abl hin hj (by rw [e1]; decide),e1]; rfl
    ·have h2 : eqS y.name b.name = false := ht35
     refine ga abn ?_
     exact gK1 hK2 (k + 1) ⟨hkn,ai3 hy hd h2⟩
   ·have hkn := abo hk ht28
    subst hkn
    have hnd : ¬ avt (bs.map Bd.name) k = true:=by rw [hbdup,hd]; decide
    refine gl ?_
    refine gC (fun ht41 => ?_) (fun ht41 => ?_)
    ·have h3 : 8 < b.pts.length := av7 ht41
     have e1 : bdE bs k = 4:=by unfold bdE; rw [hbd,if_neg (by rw [h1]; decide),if_neg hnd,if_pos h3]
     refine gE1 ?_
     rw [abl hin hj (by rw [e1]; decide),e1]; rfl
    ·have h3 : b.pts.length <= 8 := aob ht41
     have e1 : bdE bs k = aen b.pts.length (mkE b.pts):=by unfold bdE; rw [hbd,if_neg (by rw [h1]; decide),if_neg hnd,if_neg (by omega)]
     refine gl ?_
     refine gL1 [0,4,11,12,13,44,45] [4] (fun (p : Nat) => [(46,some (i64 p))]) (fun _ => []) (fun p => p <= b.pts.length /\ ∀ j,j < p -> mkE b.pts j = 0) (fun p => b.pts.length - p) 0 ⟨zero_le _,fun j h => by omega⟩ ?_
     rintro p ⟨hp,hpj⟩ K3 hK3
     refine gC (fun ht47 => ?_) (fun ht47 => ?_)
     ·have hpn := ac3 ht47
      obtain ⟨m,hm⟩ := aeg hpn
      have hmd : b.pts.getD p default = m := abp hm
      have hmm := mem_of_getElem? hm
      have hmdup := ai0 Mk.name hm
      have hmo := hbo.pts m hmm
      refine gi (aaq hm) ?_
      refine gc (ad8 m.name (hbo.names m hmm)) ?_
      refine gC (fun ht54 => ?_) (fun ht54 => ?_)
      ·have h4 := akq ht54
       have e2 : mkE b.pts p = 5:=by unfold mkE; rw [hmd,if_pos h4]
       have e3 : bdE bs k = 5:=by rw [e1,abl hpn hpj (by rw [e2]; decide),e2]
       refine gE1 ?_
       rw [abl hin hj (by rw [e3]; decide),e3]; rfl
      ·have h4 := akj ht54
       refine gs (aaj (.tmp rfl) (.none _) (.some _ (.tmp rfl) (by omega)) T116 rfl T120 rfl (by omega) (by simp only [length_map]; omega) rfl) ?_
       refine ge rfl ?_
       refine gL1 [0,4,8,11,12,13,44,45,46] [4,8] (fun (q : Nat) => [(59,some (.lst 7 ((b.pts.take p).map Mk.av))),(60,some (i64 p)),(61,some (i64 q))]) (fun _ => []) (fun q => q <= p /\ (b.pts.take q).any (fun y => eqS y.name m.name) = false) (fun q => p - q) 0 ⟨zero_le _,rfl⟩ ?_ (h1 := (.cons rfl (Sub.of (bbk 7 Mk.av b.pts p)) (.cons rfl (Sub.int (by simp; omega)) (.k .nil))))
       rintro q ⟨hq,hqd⟩ K4 hK4
       refine gC (fun ht62 => ?_) (fun ht62 => ?_)
       ·have hqn := ac3 ht62
        obtain ⟨y,hy'⟩ : ∃ y,(b.pts.take p)[q]? = some y := aeg (by simp; omega)
        have hy := (air hy').1
        refine gi (aaq hy') ?_
        refine gC (fun ht69 => ?_) (fun ht69 => ?_)
        ·have h5 : eqS y.name m.name = true := ht69
         have e2 : mkE b.pts p = 6:=by unfold mkE; rw [hmd,if_neg (by rw [h4]; decide),if_pos (by rw [hmdup]; exact alw hy hqn h5)]
         have e3 : bdE bs k = 6:=by rw [e1,abl hpn hpj (by rw [e2]; decide),e2]
         refine gE1 ?_
         rw [abl hin hj (by rw [e3]; decide),e3]; rfl
        ·have h5 : eqS y.name m.name = false := ht69
         refine ga abn ?_
         exact gK1 hK4 (q + 1) ⟨hqn,ai3 hy hqd h5⟩
       ·have hqn := abo hq ht62
        subst hqn
        have hmnd : ¬ avt (b.pts.map Mk.name) q = true:=by rw [hmdup,hqd]; decide
        refine gc (ach m.x hmo.x) ?_
        refine gcG (fun _ => (ach m.y hmo.y)) ?_
        refine gC (fun ht81 => ?_) (fun ht81 => ?_)
        ·have h6 := bdc ht81
         have e2 : mkE b.pts q = 3:=by unfold mkE; rw [hmd,if_neg (by rw [h4]; decide),if_neg hmnd,if_neg (by rintro ⟨g1,g2⟩; rcases h6 with g | g; (rw [g1] at g; cases g); (rw [g2] at g; cases g))]
         have e3 : bdE bs k = 3:=by rw [e1,abl hpn hpj (by rw [e2]; decide),e2]
         refine gE1 ?_
         rw [abl hin hj (by rw [e3]; decide),e3]; rfl
        ·have h6 := bcz ht81
         have e2 : mkE b.pts q = 0:=by unfold mkE; rw [hmd,if_neg (by rw [h4]; decide),if_neg hmnd,if_pos h6]
         refine ga abn ?_
         exact gK1 hK3 (q + 1) ⟨hpn,fun j h9 => by rcases lt_or_ge j q with g | g; exact hpj j g; (have : j = q:=by omega); subst this; exact e2⟩
     ·have hpn := abo hp ht47
      subst hpn
      have e2 : bdE bs k = 0 := e1.trans (aha hpj)
      refine ga abn ?_
      exact gK1 hK1 (k + 1) ⟨hin,fun j h9 => by rcases lt_or_ge j k with g | g; exact hj j g; (have : j = k:=by omega); subst this; exact e2⟩
 ·have hin := abo hi ht14
  subst hin
  refine gE1 ?_
  rw [aha hj]; rfl
end Go.Lw
namespace Go.Lw
open Go.Proofs
theorem aoa (l : Li) (hl : l.ok) (j : Jt) : FnC prog 301 [l.av, j.av] (ahg (jt0 l j)) := by
 refine gF0 func301 ?_
 refine gC (fun ht15 => ?_) (fun ht15 => ?_)
 ·have h1 := a9s ht15
  refine gE1 ?_
  unfold jt0; rw [if_pos h1]; rfl
 ·have h1 := bar ht15
  refine gl ?_
  refine gc (aeh j.a l.bodies.length) ?_
  refine glG ?_
  refine gcG (fun _ => (aeh j.b l.bodies.length)) ?_
  refine gC (fun ht32 => ?_) (fun ht32 => ?_)
  ·have h2 := bdc ht32
   refine gE1 ?_
   unfold jt0; rw [if_neg h1,if_pos h2]; rfl
  ·have h2 := bcz ht32
   have h2n : ¬ (inB j.a l.bodies.length = false \/ inB j.b l.bodies.length = false):=by rw [h2.1,h2.2]; simp
   obtain ⟨A,hA,pA,mA,zA0⟩ := a47 h2.1
   obtain ⟨B,hB,pB,mB,zB0⟩ := a47 h2.2
   refine gC (fun ht38 => ?_) (fun ht38 => ?_)
   ·have h3 := akp ht38
    refine gE1 ?_
    unfold jt0; rw [if_neg h1,if_neg h2n,if_pos h3]; rfl
   ·have h3 := ap4 ht38
    refine gi (aaq hB) ?_
    refine gi (aaq hA) ?_
    refine gl ?_
    refine gc (aeh j.point A.pts.length) ?_
    refine glG ?_
    refine gcG (fun _ => (aeh j.on B.pts.length)) ?_
    refine gD ?_
    refine gC (fun ht66 => ?_) (fun ht66 => ?_)
    ·have h4 := bdc ht66
     refine gE1 ?_
     unfold jt0; rw [if_neg h1,if_neg h2n,if_neg h3,pA,pB,if_pos h4]; rfl
    ·have h4 := bcz ht66
     have h4n : ¬ (inB j.point A.pts.length = false \/ inB j.on B.pts.length = false):=by rw [h4.1,h4.2]; simp
     refine gC (fun ht70 => ?_) (fun ht70 => ?_)
     ·have h5 := akp ht70
      refine gC (fun ht73 => ?_) (fun ht73 => ?_)
      ·have h6 := axx ht73
       refine gE1 ?_
       unfold jt0; rw [if_neg h1,if_neg h2n,if_neg h3,pA,pB,if_neg h4n,if_pos h5,if_pos h6]; rfl
      ·have h6 := bap ht73
       refine gE1 ?_
       unfold jt0; rw [if_neg h1,if_neg h2n,if_neg h3,pA,pB,if_neg h4n,if_pos h5,if_neg (by rw [h6]; simp)]; rfl
     ·have h5 := ap4 ht70
      refine gl ?_
      refine gc (aeh j.to B.pts.length) ?_
      refine gC (fun ht80 => ?_) (fun ht80 => ?_)
      ·have h6 := akq ht80
       refine gE1 ?_
       unfold jt0; rw [if_neg h1,if_neg h2n,if_neg h3,pA,pB,if_neg h4n,if_neg h5,if_pos h6]; rfl
      ·have h6 := akj ht80
       obtain ⟨m1,g1,d1,mm1,z1⟩ := a42 h4.2
       obtain ⟨m2,g2,d2,mm2,z2⟩ := a42 h6
       have mo1 := (hl.bodies B mB).pts m1 mm1
       have mo2 := (hl.bodies B mB).pts m2 mm2
       refine gi (aaq g1) ?_
       refine gi (aaq g2) ?_
       refine gD ?_
       refine gc (aht m1.x m2.x mo1.x mo2.x) ?_
       refine gcG (fun _ => (aht m1.y m2.y mo1.y mo2.y)) ?_
       refine gC (fun ht105 => ?_) (fun ht105 => ?_)
       ·have h7 := a98 ht105
        refine gE1 ?_
        unfold jt0; rw [if_neg h1,if_neg h2n,if_neg h3,pA,pB,if_neg h4n,if_neg h5,if_neg (by rw [h6]; decide),d1,d2,if_pos h7]; rfl
       ·have h7 := a8y ht105
        refine gE1 ?_
        unfold jt0; rw [if_neg h1,if_neg h2n,if_neg h3,pA,pB,if_neg h4n,if_neg h5,if_neg (by rw [h6]; decide),d1,d2,if_neg h7]; rfl
theorem anb (l : Li) (hl : l.ok) : FnC prog 200 [l.av] (ahg (aui l)) := by
 have hlj := hl.lj
 refine gF0 func200 ?_
 refine gl ?_
 refine gC (fun ht11 => ?_) (fun ht11 => ?_)
 ·have h0 : 16 < l.joints.length := av7 ht11
  refine gE1 ?_
  unfold aui; rw [if_pos h0]; rfl
 ·have h0 : l.joints.length <= 16 := aob ht11
  have e0 : aui l = aen l.joints.length (jtE l):=by unfold aui; rw [if_neg (by omega)]
  refine gl ?_
  refine gL1 [1,14,15] [1] (fun (i : Nat) => [(16,some (i64 i))]) (fun _ => []) (fun i => i <= l.joints.length /\ ∀ j,j < i -> jtE l j = 0) (fun i => l.joints.length - i) 0 ⟨zero_le _,fun j h => by omega⟩ ?_
  rintro i ⟨hi,hj⟩ K1 hK1
  refine gC (fun ht17 => ?_) (fun ht17 => ?_)
  ·have hin := ac3 ht17
   obtain ⟨b,hb⟩ := aeg hin
   have hbd : l.joints.getD i default = b := abp hb
   have hbdup := ai0 Jt.name hb
   refine gi (aaq hb) ?_
   refine gc (ad8 b.name (hl.jnames b (mem_of_getElem? hb))) ?_
   refine gC (fun ht24 => ?_) (fun ht24 => ?_)
   ·have h1 := akq ht24
    have e1 : jtE l i = 5:=by unfold jtE; rw [hbd,if_pos h1]
    refine gE1 ?_
    rw [e0,abl hin hj (by rw [e1]; decide),e1]; rfl
   ·have h1 := akj ht24
    refine gs (aaj (.tmp rfl) (.none _) (.some _ (.tmp rfl) (by omega)) T23 rfl T157 rfl (by omega) (by simp only [length_map]; omega) rfl) ?_
    refine ge rfl ?_
    refine gL1 [1,3,4,14,15,16] [1,4] (fun (k : Nat) => [(29,some (.lst 7 ((l.joints.take i).map Jt.av))),(30,some (i64 i)),(31,some (i64 k))]) (fun _ => []) (fun k => k <= i /\ (l.joints.take k).any (fun y => eqS y.name b.name) = false) (fun k => i - k) 0 ⟨zero_le _,rfl⟩ ?_ (h1 := (.cons rfl (Sub.of (bbk 7 Jt.av l.joints i)) (.cons rfl (Sub.int (by simp; omega)) (.k .nil))))
    rintro k ⟨hk,hd⟩ K2 hK2
    refine gC (fun ht32 => ?_) (fun ht32 => ?_)
    ·have hkn := ac3 ht32
     obtain ⟨y,hy'⟩ : ∃ y,(l.joints.take i)[k]? = some y := aeg (by simp; omega)
     have hy := (air hy').1
     refine gi (aaq hy') ?_
     refine gC (fun ht39 => ?_) (fun ht39 => ?_)
     ·have h2 : eqS y.name b.name = true := ht39
      have e1 : jtE l i = 6:=by unfold jtE; rw [hbd,if_neg (by rw [h1]; decide),if_pos (by rw [hbdup]; exact alw hy hkn h2)]
      refine gE1 ?_
      rw [e0,abl hin hj (by rw [e1]; decide),e1]; rfl
     ·have h2 : eqS y.name b.name = false := ht39
      refine ga abn ?_
      exact gK1 hK2 (k + 1) ⟨hkn,ai3 hy hd h2⟩
    ·have hkn := abo hk ht32
     subst hkn
     have hnd : ¬ avt (l.joints.map Jt.name) k = true:=by rw [hbdup,hd]; decide
     have e1 : jtE l k = jt0 l b:=by unfold jtE; rw [hbd,if_neg (by rw [h1]; decide),if_neg hnd]
     refine gc (aoa l hl b) ?_
     refine gC (fun ht46 => ?_) (fun ht46 => ?_)
     ·have h3 := ae2 ht46
      refine gE1 ?_
      rw [e0,abl hin hj (by rw [e1]; exact h3),e1]
     ·have h3 := ae0 ht46
      refine ga abn ?_
      exact gK1 hK1 (k + 1) ⟨hin,fun j h9 => by rcases lt_or_ge j k with g | g; exact hj j g; (have : j = k:=by omega); subst this; exact e1.trans h3⟩
  ·have hin := abo hi ht17
   subst hin
   refine gE1 ?_
   rw [e0,aha hj]; rfl
theorem amk (l : Li) (hl : l.ok) : FnC prog 201 [l.av] (ahg (a1r l)) := by
 have hld := hl.ld
 refine gF0 func201 ?_
 refine gl ?_
 refine gC (fun ht12 => ?_) (fun ht12 => ?_)
 ·have h0 : 2 < l.drivers.length := av7 ht12
  refine gE1 ?_
  unfold a1r; rw [if_pos h0]; rfl
 ·have h0 : l.drivers.length <= 2 := aob ht12
  have e0 : a1r l = aen l.drivers.length (drE l):=by unfold a1r; rw [if_neg (by omega)]
  refine gl ?_
  refine gL1 [1,15,16] [1] (fun (i : Nat) => [(17,some (i64 i))]) (fun _ => []) (fun i => i <= l.drivers.length /\ ∀ j,j < i -> drE l j = 0) (fun i => l.drivers.length - i) 0 ⟨zero_le _,fun j h => by omega⟩ ?_
  rintro i ⟨hi,hj⟩ K1 hK1
  refine gC (fun ht18 => ?_) (fun ht18 => ?_)
  ·have hin := ac3 ht18
   obtain ⟨b,hb⟩ := aeg hin
   have hbd : l.drivers.getD i default = b := abp hb
   have hbdup := ai0 Dr.name hb
   refine gi (aaq hb) ?_
   refine gc (ad8 b.name (hl.dnames b (mem_of_getElem? hb))) ?_
   refine gC (fun ht25 => ?_) (fun ht25 => ?_)
   ·have h1 := akq ht25
    have e1 : drE l i = 5:=by unfold drE; rw [hbd,if_pos h1]
    refine gE1 ?_
    rw [e0,abl hin hj (by rw [e1]; decide),e1]; rfl
   ·have h1 := akj ht25
    refine gs (aaj (.tmp rfl) (.none _) (.some _ (.tmp rfl) (by omega)) T24 rfl T190 rfl (by omega) (by simp only [length_map]; omega) rfl) ?_
    refine ge rfl ?_
    refine gL1 [1,3,4,15,16,17] [1,4] (fun (k : Nat) => [(30,some (.lst 2 ((l.drivers.take i).map Dr.av))),(31,some (i64 i)),(32,some (i64 k))]) (fun _ => []) (fun k => k <= i /\ (l.drivers.take k).any (fun y => eqS y.name b.name) = false) (fun k => i - k) 0 ⟨zero_le _,rfl⟩ ?_ (h1 := (.cons rfl (Sub.of (bbk 2 Dr.av l.drivers i)) (.cons rfl (Sub.int (by simp; omega)) (.k .nil))))
    rintro k ⟨hk,hd⟩ K2 hK2
    refine gC (fun ht33 => ?_) (fun ht33 => ?_)
    ·have hkn := ac3 ht33
     obtain ⟨y,hy'⟩ : ∃ y,(l.drivers.take i)[k]? = some y := aeg (by simp; omega)
     have hy := (air hy').1
     refine gi (aaq hy') ?_
     refine gC (fun ht40 => ?_) (fun ht40 => ?_)
     ·have h2 : eqS y.name b.name = true := ht40
      have e1 : drE l i = 6:=by unfold drE; rw [hbd,if_neg (by rw [h1]; decide),if_pos (by rw [hbdup]; exact alw hy hkn h2)]
      refine gE1 ?_
      rw [e0,abl hin hj (by rw [e1]; decide),e1]; rfl
     ·have h2 : eqS y.name b.name = false := ht40
      refine ga abn ?_
      exact gK1 hK2 (k + 1) ⟨hkn,ai3 hy hd h2⟩
    ·have hkn := abo hk ht33
     subst hkn
     have hnd : ¬ avt (l.drivers.map Dr.name) k = true:=by rw [hbdup,hd]; decide
     refine gl ?_
     refine gc (aeh b.body l.bodies.length) ?_
     refine gC (fun ht49 => ?_) (fun ht49 => ?_)
     ·have h3 := akq ht49
      have e1 : drE l k = 9:=by unfold drE; rw [hbd,if_neg (by rw [h1]; decide),if_neg hnd,if_pos h3]
      refine gE1 ?_
      rw [e0,abl hin hj (by rw [e1]; decide),e1]; rfl
     ·have h3 := akj ht49
      refine gC (fun ht53 => ?_) (fun ht53 => ?_)
      ·have h4 := akp ht53
       have e1 : drE l k = 7:=by unfold drE; rw [hbd,if_neg (by rw [h1]; decide),if_neg hnd,if_neg (by rw [h3]; decide),if_pos h4]
       refine gE1 ?_
       rw [e0,abl hin hj (by rw [e1]; decide),e1]; rfl
      ·have h4 := ap4 ht53
       have e1 : drE l k = if (l.drivers.take k).any (fun d => decide (d.body = b.body)) = true then 6 else 0:=by unfold drE; rw [hbd,if_neg (by rw [h1]; decide),if_neg hnd,if_neg (by rw [h3]; decide),if_neg h4]
       refine gs (aaj (.tmp rfl) (.none _) (.some _ (.tmp rfl) (by omega)) T24 rfl T190 rfl (by omega) (by simp only [length_map]; omega) rfl) ?_
       refine ge rfl ?_
       refine gL1 [1,4,15,16,17] [1,4] (fun (q : Nat) => [(58,some (.lst 2 ((l.drivers.take k).map Dr.av))),(59,some (i64 k)),(60,some (i64 q))]) (fun _ => []) (fun q => q <= k /\ (l.drivers.take q).any (fun d => decide (d.body = b.body)) = false) (fun q => k - q) 0 ⟨zero_le _,rfl⟩ ?_ (h1 := (.cons rfl (Sub.of (bbk 2 Dr.av l.drivers k)) (.cons rfl (Sub.int (by simp; omega)) (.k .nil))))
       rintro q ⟨hq,hqd⟩ K3 hK3
       refine gC (fun ht61 => ?_) (fun ht61 => ?_)
       ·have hqn := ac3 ht61
        obtain ⟨y,hy'⟩ : ∃ y,(l.drivers.take k)[q]? = some y := aeg (by simp; omega)
        have hy := (air hy').1
        refine gi (aaq hy') ?_
        refine gC (fun ht68 => ?_) (fun ht68 => ?_)
        ·have h5 : decide (y.body = b.body) = true := decide_eq_true (akp ht68)
         have e2 : drE l k = 6:=by rw [e1,if_pos (alw hy hqn h5)]
         refine gE1 ?_
         rw [e0,abl hin hj (by rw [e2]; decide),e2]; rfl
        ·have h5 : decide (y.body = b.body) = false := decide_eq_false (ap4 ht68)
         refine ga abn ?_
         exact gK1 hK3 (q + 1) ⟨hqn,ai3 hy hqd h5⟩
       ·have hqn := abo hq ht61
        subst hqn
        have e2 : drE l q = 0:=by rw [e1,hqd]; rfl
        refine ga abn ?_
        exact gK1 hK1 (q + 1) ⟨hin,fun j h9 => by rcases lt_or_ge j q with g | g; exact hj j g; (have : j = q:=by omega); subst this; exact e2⟩
  ·have hin := abo hi ht18
   subst hin
   refine gE1 ?_
   rw [e0,aha hj]; rfl
theorem ais (l : Li) (hl : l.ok) : FnC prog 102 [l.av] (ahg (liE l)) := by
 have hlb := hl.lb
 refine gF0 func102 ?_
 refine gc (ad8 l.name hl.name) ?_
 refine gC (fun ht8 => ?_) (fun ht8 => ?_)
 ·have h1 := akq ht8
  refine gE1 ?_
  unfold liE; rw [if_pos h1]; rfl
 ·have h1 := akj ht8
  refine gl ?_
  refine gC (fun ht13 => ?_) (fun ht13 => ?_)
  ·have h2 := bal ht13
   refine gE1 ?_
   unfold liE; rw [if_neg (by rw [h1]; decide),if_pos h2]; rfl
  ·have h2 := a8s ht13
   refine gl ?_
   refine gC (fun ht18 => ?_) (fun ht18 => ?_)
   ·have h3 : 8 < l.bodies.length := av7 ht18
    refine gE1 ?_
    unfold liE; rw [if_neg (by rw [h1]; decide),if_neg h2,if_pos h3]; rfl
   ·have h3 : l.bodies.length <= 8 := aob ht18
    have e0 : liE l = if a30 l ≠ 0 then a30 l else if aui l ≠ 0 then aui l else a1r l:=by unfold liE; rw [if_neg (by rw [h1]; decide),if_neg h2,if_neg (by omega)]
    refine gc (am2 l.bodies hl.bodies hlb) ?_
    refine gC (fun ht24 => ?_) (fun ht24 => ?_)
    ·have h4 : a30 l ≠ 0 := ae2 ht24
     refine gE1 ?_
     rw [e0,if_pos h4]; rfl
    ·have h4 : a30 l = 0 := ae0 ht24
     refine gc (anb l hl) ?_
     refine gC (fun ht29 => ?_) (fun ht29 => ?_)
     ·have h5 := ae2 ht29
      refine gE1 ?_
      rw [e0,if_neg (by rw [h4]; simp),if_pos h5]
     ·have h5 := ae0 ht29
      refine gc (amk l hl) ?_
      refine gE1 ?_
      rw [e0,if_neg (by rw [h4]; simp),if_neg (by rw [h5]; simp)]
end Go.Lw
namespace Go.Lw
open Go.Proofs
end Go.Lw
namespace Go.Lw
open Go.Proofs
end Go.Lw
namespace Go.Lw
open Go.Proofs
theorem atr : FnC prog 16 [.v .nilIface] (i64 0) := by
 refine gF0 func16 ?_
 refine gC (fun ht6 => ?_) (fun ht6 => ?_) (st2 := (77777,0))
 ·refine gE1 ?_
  first | rfl | (simp; done)
 ·cases ht6
theorem atl (n : Int) : FnC prog 16 [.v (.iface 66 (.int .i64 n))] (i64 n) := by
 refine gF0 func16 ?_
 refine gC (fun ht6 => ?_) (fun ht6 => ?_) (st1 := (2,0))
 ·cases ht6
 ·refine gs (a3t (.tmp rfl) T66 rfl rfl) ?_
  refine gC (fun ht13 => ?_) (fun ht13 => ?_) (st1 := (5,0))
  ·cases ht13
  ·refine gE1 ?_
   rfl
theorem awv (e : Nat) : FnC prog 16 [ahg e] (i64 e) := by
 cases e with
 | zero => exact atr
 | succ e => exact atl _
end Go.Lw
namespace Go.Lw
structure Gr where
  kind : Int
  bodies : List Int
  joints : List Int
  driver : Int
instance : Inhabited Gr := ⟨⟨0,[],[],0⟩⟩
def Gr.av (g : Gr) : AV := .agg [i64 g.kind,.lst 1 (g.bodies.map i64),.lst 1 (g.joints.map i64),i64 g.driver]
def kn (k : List Bool) (i : Int) : Bool := k.getD i.toNat false
def afn (n : Nat) (b : Int) : List Bool := (List.replicate n false).set b.toNat true
def aoh (l : Li) (b : Int) : Bool := l.drivers.any (fun d => decide (d.body = b))
def freeB (l : Li) (known : List Bool) (b : Int) : Bool := !kn known b && !aoh l b
def bch (kind body : Int) (oth : List Bool) (j : Jt) : Bool := decide (j.kind = kind) && (decide (j.a = body) && kn oth j.b || decide (j.b = body) && kn oth j.a)
def jointI (l : Li) (kind body : Int) (oth : List Bool) : Int := ixI (ac1 l.joints.length (fun i => !bch kind body oth (l.joints.getD i default)))
def drHit (l : Li) (known : List Bool) (i : Nat) : Bool := !kn known (l.drivers.getD i default).body && decide (0 <= jointI l 0 (l.drivers.getD i default).body known)
def driverG (l : Li) (known : List Bool) : Option Gr :=
  (ac1 l.drivers.length (fun i => !drHit l known i)).map fun i => ⟨0,[(l.drivers.getD i default).body],[jointI l 0 (l.drivers.getD i default).body known],i⟩
def prHit (l : Li) (known : List Bool) (i k : Nat) : Bool :=
  (freeB l known i && freeB l known k) && (decide (0 <= jointI l 0 i known) && decide (0 <= jointI l 0 k known) && decide (0 <= jointI l 0 i (afn l.bodies.length k)))
def prAt (l : Li) (known : List Bool) (i : Nat) : Option Nat := (ac1 (l.bodies.length - (i + 1)) (fun k => !prHit l known i (i + 1 + k))).map (· + (i + 1))
def prG (l : Li) (known : List Bool) (i k : Nat) : Gr := ⟨1,[i,k],[jointI l 0 i known,jointI l 0 k known,jointI l 0 i (afn l.bodies.length k)],0⟩
def pairG (l : Li) (known : List Bool) : Option Gr :=
  (ac1 l.bodies.length (fun i => (prAt l known i).isNone)).map fun i => match prAt l known i with
    | some k => prG l known i k
    | none => default
def sgHit (l : Li) (known : List Bool) (i : Nat) : Bool := freeB l known i && (decide (0 <= jointI l 0 i known) && decide (0 <= jointI l 1 i known))
def sgG (l : Li) (known : List Bool) (i : Nat) : Gr :=
  ⟨if (l.joints.getD (jointI l 1 i known).toNat default).a = i then 2 else 3,[i],[jointI l 0 i known,jointI l 1 i known],0⟩
def singleG (l : Li) (known : List Bool) : Option Gr := (ac1 l.bodies.length (fun i => !sgHit l known i)).map (sgG l known)
def nextG (l : Li) (known : List Bool) : Option Gr := (driverG l known).or ((pairG l known).or (singleG l known))
def aa5 (known : List Bool) (bs : List Int) : List Bool := bs.foldl (fun k b => k.set b.toNat true) known
def findFrom (l : Li) : Nat -> List Bool -> List Gr -> List Bool × List Gr
  | 0,known,out => (known,out)
  | n + 1, known, out => match nextG l known with
    | none => (known,out)
    | some g => findFrom l n (aa5 known g.bodies) (out ++ [g])
def findG (l : Li) : List Gr := (findFrom l l.bodies.length (afn l.bodies.length 0) []).2
def aew (l : Li) : List Bool := (findG l).foldl (fun k g => aa5 k g.bodies) (afn l.bodies.length 0)
def al8 (l : Li) : List Bool := (findG l).foldl (fun k g => aa5 k g.joints) (List.replicate l.joints.length false)
def ak2 (k : List Bool) : List Int := ((List.range k.length).filter (fun i => !k.getD i false)).map (fun i : Nat => ((i : Nat) : Int))
def splitE (l : Li) : Nat := if (ak2 (aew l)).length + (ak2 (al8 l)).length = 0 then 0 else 7
def splitG (l : Li) : List Gr := if splitE l = 0 then findG l else []
theorem aiy (n : Nat) (b : Int) : (afn n b).length = n:=by unfold afn; simp
theorem ad3 : ∀ (bs : List Int) (k : List Bool), (aa5 k bs).length = k.length
 | [],k => rfl
 | b :: bs, k => by
  show (aa5 (k.set b.toNat true) bs).length = _
  rw [ad3 bs]; simp
theorem ab4 {n i : Nat} {ok : Nat -> Bool} (h : ac1 n ok = some i) : i < n /\ ok i = false := by
 unfold ac1 at h
 rw [List.find?_range_eq_some] at h
 exact ⟨by simpa using h.2.1,by simpa using h.1⟩
theorem aeq {l : Li} {kind body : Int} {oth : List Bool} : -1 <= jointI l kind body oth /\ jointI l kind body oth < l.joints.length := by
 unfold jointI
 cases h : ac1 l.joints.length (fun i => !bch kind body oth (l.joints.getD i default)) with
 | none => exact ⟨by decide,by show (-1 : Int) < _; omega⟩
 | some i => have := (ab4 h).1; exact ⟨by show (-1 : Int) <= (i : Int); omega,by show (i : Int) < _; omega⟩
structure GrOk (l : Li) (g : Gr) : Prop where
  b : ∀ x ∈ g.bodies,0 <= x /\ x < l.bodies.length
  j : ∀ x ∈ g.joints,0 <= x /\ x < l.joints.length
  lb : g.bodies.length <= 2
  lj : g.joints.length <= 3
theorem awz {l : Li} (hl : liE l = 0) {known : List Bool} {g : Gr} (h : driverG l known = some g) : GrOk l g := by
 unfold driverG at h
 rw [map_eq_some_iff] at h
 obtain ⟨i,hi,rfl⟩ := h
 obtain ⟨h1,h2⟩ := ab4 hi
 obtain ⟨d,hd⟩ := aeg h1
 have h3 := amm (ax0 hl hd)
 unfold drHit at h2
 simp only [Bool.not_eq_false',and_eq_true,decide_eq_true_eq] at h2
 rw [abp hd] at h2 ⊢
 have h4 := aeq (l := l) (kind := 0) (body := d.body) (oth := known)
 refine ⟨fun x hx => ?_,fun x hx => ?_,by simp,by simp⟩
 ·rw [List.mem_singleton.1 hx]; exact h3
 ·rw [List.mem_singleton.1 hx]; exact ⟨h2.2,h4.2⟩
theorem a10 {l : Li} {known : List Bool} {g : Gr} (h : pairG l known = some g) : GrOk l g := by
 unfold pairG at h
 rw [map_eq_some_iff] at h
 obtain ⟨i,hi,h⟩ := h
 obtain ⟨h1,h2⟩ := ab4 hi
 split at h
 ·rename_i k hk
  subst h
  unfold prAt at hk
  rw [map_eq_some_iff] at hk
  obtain ⟨k',hk',rfl⟩ := hk
  obtain ⟨h3,h4⟩ := ab4 hk'
  rw [show i + 1 + k' = k' + (i + 1) by omega] at h4
  unfold prHit at h4
  simp only [Bool.not_eq_false',and_eq_true,decide_eq_true_eq] at h4
  obtain ⟨_,⟨j1,j2⟩,j3⟩ := h4
  refine ⟨fun x hx => ?_,fun x hx => ?_,by simp [prG],by simp [prG]⟩
  ·simp only [prG, mem_cons, not_mem_nil, or_false] at hx
   rcases hx with rfl | rfl <;> constructor <;> omega
  ·simp only [prG, mem_cons, not_mem_nil, or_false] at hx
   rcases hx with rfl | rfl | rfl
   ·exact ⟨j1,aeq.2⟩
   ·exact ⟨j2,aeq.2⟩
   ·exact ⟨j3,aeq.2⟩
 ·rename_i hk; rw [hk] at h2; cases h2
theorem av2 {l : Li} {known : List Bool} {g : Gr} (h : singleG l known = some g) : GrOk l g := by
 unfold singleG at h
 rw [map_eq_some_iff] at h
 obtain ⟨i,hi,rfl⟩ := h
 obtain ⟨h1,h2⟩ := ab4 hi
 unfold sgHit at h2
 simp only [Bool.not_eq_false',and_eq_true,decide_eq_true_eq] at h2
 obtain ⟨_,j1,j2⟩ := h2
 refine ⟨fun x hx => ?_,fun x hx => ?_,by simp [sgG],by simp [sgG]⟩
 ·simp only [sgG, mem_cons, not_mem_nil, or_false] at hx
  subst hx; constructor <;> omega
 ·simp only [sgG, mem_cons, not_mem_nil, or_false] at hx
  rcases hx with rfl | rfl
  ·exact ⟨j1,aeq.2⟩
  ·exact ⟨j2,aeq.2⟩
theorem au3 {l : Li} (hl : liE l = 0) {known : List Bool} {g : Gr} (h : nextG l known = some g) : GrOk l g := by
 unfold nextG at h
 cases h1 : driverG l known with
 | some g' => rw [h1] at h; cases h; exact awz hl h1
 | none =>
  rw [h1] at h
  cases h2 : pairG l known with
  | some g' => rw [h2] at h; cases h; exact a10 h2
  | none => rw [h2] at h; exact av2 h
theorem al4 {l : Li} (hl : liE l = 0) : ∀ (n : Nat) (known : List Bool) (out : List Gr), (∀ g ∈ out, GrOk l g) -> (∀ g ∈ (findFrom l n known out).2, GrOk l g) /\ (findFrom l n known out).2.length <= out.length + n
 | 0,known,out,h => ⟨h,by simp [findFrom]⟩
 | n + 1, known, out, h => by
  unfold findFrom
  cases hg : nextG l known with
  | none => exact ⟨h,by simp⟩
  | some g =>
   have h1 := al4 hl n (aa5 known g.bodies) (out ++ [g]) (fun x hx => by
    rcases List.mem_append.1 hx with hx | hx
    ·exact h x hx
    ·rw [List.mem_singleton.1 hx]; exact au3 hl hg)
   refine ⟨h1.1,?_⟩
   have := h1.2
   rw [length_append] at this
   show (findFrom l n (aa5 known g.bodies) (out ++ [g])).2.length <= _
   simp only [length_cons,length_nil] at this
   omega
theorem a2o {l : Li} (hl : liE l = 0) : (∀ g ∈ findG l, GrOk l g) /\ (findG l).length <= 8 := by
 have h := al4 hl l.bodies.length (afn l.bodies.length 0) [] (fun g hg => by cases hg)
 have h8 := (ad6 hl).2.2.2.1
 exact ⟨h.1,by have := h.2; simp only [length_nil] at this; unfold findG; omega⟩
end Go.Lw
namespace Go.Lw
def agc (j : Jt) (b : Int) : Int := if b = j.a then j.b else if b = j.b then j.a else -1
def bbp (kind body : Int) (p : Int -> Bool) (j : Jt) : Bool := decide (j.kind = kind) && (decide (0 <= agc j body) && p (agc j body))
def gJ (l : Li) (kind body : Int) (p : Int -> Bool) : Int := ixI (ac1 l.joints.length (fun i => !bbp kind body p (l.joints.getD i default)))
theorem bee {b : Bool} {z : Int} (h : cond b (aab .geq z 0) false = true) : 0 <= z := by
 cases b
 ·cases h
 ·exact of_decide_eq_true h
theorem a9k {a k z : Int} {q : Bool} : cond (cond (aab .eql a k) (aab .geq z 0) false) q false = (decide (a = k) && (decide (0 <= z) && q)) := by
 rw [a0u,show aab .geq z 0 = decide (0 <= z) from rfl,ahd,ahd,Bool.and_assoc]
theorem a31 {l : Li} (hli : liE l = 0) {i : Nat} {j : Jt} (hj : l.joints[i]? = some j) (b : Int) : agc j b < l.bodies.length := by
 obtain ⟨i1,i2,_⟩ := ba9 hli hj
 have b1 := amm i1
 have b2 := amm i2
 unfold agc
 split
 ·omega
 ·split <;> omega
theorem aqn {n : Nat} {ok ok' : Nat -> Bool} (h : ∀ i, i < n -> ok i = ok' i) : ac1 n ok = ac1 n ok' := by
 unfold ac1
 have : ∀ l : List Nat, (∀ i ∈ l, i < n) -> l.find? (fun i => !ok i) = l.find? (fun i => !ok' i) := by
  intro l
  induction l with
  | nil => intro _; rfl
  | cons a l ih =>
   intro hl
   simp only [List.find?_cons,h a (hl a (by simp)),ih (fun i hi => hl i (by simp [hi]))]
 exact this _ (fun i hi => List.mem_range.1 hi)
theorem a6u {l : Li} (hli : liE l = 0) {kind body : Int} {p : Int -> Bool} {oth : List Bool} (h : ∀ o : Int, 0 <= o -> o < l.bodies.length -> p o = kn oth o) : gJ l kind body p = jointI l kind body oth := by
 unfold gJ jointI
 rw [aqn]
 intro i hi
 obtain ⟨j,hj⟩ := aeg hi
 rw [abp hj]
 obtain ⟨i1,i2,_⟩ := ba9 hli hj
 have b1 := amm i1
 have b2 := amm i2
 congr 1
 unfold bbp bch
 congr 1
 unfold agc
 by_cases h1 : body = j.a
 ·subst h1
  rw [if_pos rfl,h _ b2.1 b2.2]
  by_cases h2 : j.b = j.a
  ·simp [h2,b1.1]
  ·simp [h2,b2.1]
 ·rw [if_neg h1]
  by_cases h2 : body = j.b
  ·subst h2
   rw [if_pos rfl,h _ b1.1 b1.2]
   have h3 : ¬ j.a = j.b := fun e => h1 e.symm
   simp [h3,b1.1]
  ·rw [if_neg h2]
   have h3 : ¬ j.a = body := fun e => h1 e.symm
   have h4 : ¬ j.b = body := fun e => h2 e.symm
   simp [h3,h4]
theorem a45 {k : List Bool} {i : Nat} {b : Int} (h0 : 0 <= b) (hi : i < k.length) : kn (k.set i true) b = (decide (b = i) || kn k b) := by
 unfold kn
 rw [getD_eq_getElem?_getD,List.getElem?_set,getD_eq_getElem?_getD]
 by_cases h : b = i
 ·rw [decide_eq_true h, Bool.true_or, if_pos (by omega)]
  rw [if_pos (by omega)]; rfl
 ·rw [decide_eq_false h,Bool.false_or,if_neg (by omega)]
theorem ays : ∀ {bs : List Int} {k : List Bool} {b : Int}, 0 <= b -> (∀ x ∈ bs, 0 <= x /\ x < k.length) -> kn (aa5 k bs) b = (bs.any (fun x => decide (x = b)) || kn k b)
 | [],k,b,h0,h => by simp [aa5]
 | x :: bs, k, b, h0, h => by
  show kn (aa5 (k.set x.toNat true) bs) b = _
  obtain ⟨hx0,hx1⟩ := h x (by simp)
  rw [ays h0 (fun y hy => by rw [List.length_set]; exact h y (by simp [hy])),a45 h0 (by omega),List.any_cons]
  have e : decide (b = (x.toNat : Int)) = decide (x = b) := decide_eq_decide.2 (by omega)
  rw [e]
  cases decide (x = b) <;> simp
theorem avh (n : Nat) (b : Int) : kn (List.replicate n false) b = false := by
 unfold kn
 rw [getD_eq_getElem?_getD,List.getElem?_replicate]
 split <;> rfl
def aao (l : Li) : List Bool := aa5 (List.replicate l.bodies.length false) (l.drivers.map Dr.body)
theorem afh (l : Li) : (aao l).length = l.bodies.length:=by unfold aao; rw [ad3,List.length_replicate]
theorem a0m {l : Li} (hli : liE l = 0) {b : Int} (h0 : 0 <= b) : kn (aao l) b = aoh l b := by
 unfold aao aoh
 rw [ays h0,avh,Bool.or_false,List.any_map]
 ·rfl
 ·intro x hx
  obtain ⟨d,hd,rfl⟩ := List.mem_map.1 hx
  obtain ⟨i,hi⟩ := List.mem_iff_getElem?.1 hd
  have := amm (ax0 hli hi)
  rw [List.length_replicate]; omega
theorem a7w {n : Nat} {b o : Int} (h0 : 0 <= o) (hb0 : 0 <= b) (hb : b < n) : kn (afn n b) o = decide (o = b) := by
 unfold afn
 rw [a45 h0 (by rw [List.length_replicate]; omega),avh,Bool.or_false]
 exact decide_eq_decide.2 (by omega)
def unk (k : List Bool) : Nat := k.countP (fun x => !x)
theorem a7m {k : List Bool} {i : Nat} (h : k[i]? = some false) : unk (k.set i true) + 1 = unk k := by
 unfold unk
 have hi := (List.getElem?_eq_some_iff.1 h).1
 have he := (List.getElem?_eq_some_iff.1 h).2
 rw [List.countP_set hi,he]
 have : 0 < k.countP (fun x => !x) := List.countP_pos_iff.2 ⟨false,mem_of_getElem? h,rfl⟩
 simp; omega
theorem awh (k : List Bool) (i : Nat) : unk (k.set i true) <= unk k := by
 by_cases hi : i < k.length
 ·unfold unk; rw [List.countP_set hi]; simp
 ·rw [List.set_eq_of_length_le (by omega)]; exact le_refl _
theorem ami : ∀ (bs : List Int) (k : List Bool), unk (aa5 k bs) <= unk k
 | [],k => le_refl _
 | x :: bs,k => le_trans (ami bs (k.set x.toNat true)) (awh k _)
theorem a2e {x : Int} {bs : List Int} {k : List Bool} (h : k[x.toNat]? = some false) : unk (aa5 k (x :: bs)) < unk k := by
 have h1 := ami bs (k.set x.toNat true)
 have h2 := a7m h
 show unk (aa5 (k.set x.toNat true) bs) < _
 omega
theorem a1d {k : List Bool} {b : Int} (h : kn k b = false) (h1 : b.toNat < k.length) : k[b.toNat]? = some false := by
 unfold kn at h
 rw [getD_eq_getElem?_getD,getElem?_eq_getElem h1] at h
 rw [getElem?_eq_getElem h1]
 simpa using h
theorem az1 {l : Li} (hl : liE l = 0) {known : List Bool} (hk : known.length = l.bodies.length) {g : Gr} (h : nextG l known = some g) : ∃ x bs, g.bodies = x :: bs /\ known[x.toNat]? = some false := by
 unfold nextG at h
 cases h1 : driverG l known with
 | some g' =>
  rw [h1] at h; cases h
  unfold driverG at h1
  rw [map_eq_some_iff] at h1
  obtain ⟨i,hi,rfl⟩ := h1
  obtain ⟨h2,h3⟩ := ab4 hi
  obtain ⟨d,hd⟩ := aeg h2
  have h4 := amm (ax0 hl hd)
  rw [abp hd] at *
  unfold drHit at h3
  rw [abp hd] at h3
  simp only [Bool.not_eq_false',and_eq_true,Bool.not_eq_true',decide_eq_true_eq] at h3
  exact ⟨_,_,rfl,a1d h3.1 (by omega)⟩
 | none =>
  rw [h1] at h
  cases h2 : pairG l known with
  | some g' =>
   rw [h2] at h; cases h
   unfold pairG at h2
   rw [map_eq_some_iff] at h2
   obtain ⟨i,hi,h2⟩ := h2
   obtain ⟨h3,h4⟩ := ab4 hi
   split at h2
   ·rename_i k hk'
    subst h2
    unfold prAt at hk'
    rw [map_eq_some_iff] at hk'
    obtain ⟨k',hk',rfl⟩ := hk'
    obtain ⟨h5,h6⟩ := ab4 hk'
    unfold prHit freeB at h6
    simp only [Bool.not_eq_false',and_eq_true,Bool.not_eq_true',decide_eq_true_eq] at h6
    exact ⟨_,_,rfl,a1d h6.1.1.1 (by omega)⟩
   ·rename_i hk'; rw [hk'] at h4; cases h4
  | none =>
   rw [h2] at h
   have h : singleG l known = some g := h
   unfold singleG at h
   rw [map_eq_some_iff] at h
   obtain ⟨i,hi,rfl⟩ := h
   obtain ⟨h3,h4⟩ := ab4 hi
   unfold sgHit freeB at h4
   simp only [Bool.not_eq_false',and_eq_true,Bool.not_eq_true',decide_eq_true_eq] at h4
   exact ⟨_,_,rfl,a1d h4.1.1 (by omega)⟩
theorem afd {l : Li} (hl : liE l = 0) {known : List Bool} (hk : known.length = l.bodies.length) {g : Gr} (h : nextG l known = some g) : unk (aa5 known g.bodies) < unk known := by
 obtain ⟨x,bs,e,h1⟩ := az1 hl hk h
 rw [e]; exact a2e h1
theorem afz {l : Li} (hl : liE l = 0) : ∀ (n m : Nat) (known : List Bool) (out : List Gr), known.length = l.bodies.length -> unk known <= n -> unk known <= m -> findFrom l n known out = findFrom l m known out
 | 0,0,known,out,hk,h1,h2 => rfl
 | 0, m + 1, known, out, hk, h1, h2 => by
  unfold findFrom
  cases hg : nextG l known with
  | none => rfl
  | some g => have := afd hl hk hg; omega
 | n + 1, 0, known, out, hk, h1, h2 => by
  unfold findFrom
  cases hg : nextG l known with
  | none => rfl
  | some g => have := afd hl hk hg; omega
 | n + 1, m + 1, known, out, hk, h1, h2 => by
  unfold findFrom
  cases hg : nextG l known with
  | none => rfl
  | some g =>
   have := afd hl hk hg
   exact afz hl n m _ _ (by rw [ad3]; exact hk) (by omega) (by omega)
theorem ae5 {l : Li} : ∀ (n : Nat) (known : List Bool) (out : List Gr), ∃ gs, findFrom l n known out = (gs.foldl (fun k g => aa5 k g.bodies) known, out ++ gs)
 | 0,known,out => ⟨[],by simp [findFrom]⟩
 | n + 1, known, out => by
  unfold findFrom
  cases hg : nextG l known with
  | none => exact ⟨[],by simp⟩
  | some g =>
   obtain ⟨gs,e⟩ := ae5 n (aa5 known g.bodies) (out ++ [g])
   exact ⟨g :: gs,by show findFrom l n _ _ = _; rw [e]; simp⟩
theorem awy (l : Li) : findFrom l l.bodies.length (afn l.bodies.length 0) [] = (aew l, findG l) := by
 obtain ⟨gs,e⟩ := ae5 (l := l) l.bodies.length (afn l.bodies.length 0) []
 unfold aew findG
 rw [e]; simp
theorem au6 {k : List Bool} : (ak2 k).length = 0 ↔ k.contains false = false := by
 unfold ak2
 rw [length_map,List.length_eq_zero_iff,List.filter_eq_nil_iff]
 constructor
 ·intro h
  rw [<- Bool.not_eq_true,List.contains_iff_mem]
  intro hm
  obtain ⟨i,hi⟩ := List.mem_iff_getElem?.1 hm
  have hlt := (List.getElem?_eq_some_iff.1 hi).1
  have := h i (List.mem_range.2 hlt)
  rw [getD_eq_getElem?_getD,hi] at this
  simp at this
 ·intro h i hi
  rw [<- Bool.not_eq_true,List.contains_iff_mem] at h
  intro hc
  have hlt := List.mem_range.1 hi
  rw [getD_eq_getElem?_getD,getElem?_eq_getElem hlt] at hc
  simp at hc
  exact h (hc ▸ List.getElem_mem hlt)
theorem ar8 : Sub (.agg [.v (.int .i64 0),.v (.slice none 0 0),.v (.slice none 0 0),.v (.int .i64 0)]) (Gr.av default) := .agg (.cons (.refl _) (.cons (.nil _ _ _) (.cons (.nil _ _ _) (.cons (.refl _) .nil)))) rfl
theorem bcr {z : Int} (h : aab .geq z 0 = true) : 0 <= z := of_decide_eq_true h
theorem bda {z : Int} (h : aab .geq z 0 = false) : ¬ 0 <= z := of_decide_eq_false h
theorem a1n {a b c : Int} : cond (cond (aab .geq a 0) (aab .geq b 0) false) (aab .geq c 0) false = (decide (0 <= a) && decide (0 <= b) && decide (0 <= c)) := by
 have e : ∀ z : Int,aab .geq z 0 = decide (0 <= z) := fun z => rfl
 rw [e,e,e,ahd,ahd]
theorem a8x {a b : Int} : cond (aab .lss a 0) true (aab .lss b 0) = !(decide (0 <= a) && decide (0 <= b)) := by
 have e : ∀ z : Int,aab .lss z 0 = !decide (0 <= z) := fun z => by rw [<- decide_not]; exact decide_eq_decide.2 (by omega)
 rw [e,e,a7q,Bool.not_and]
theorem bcv {a b : Int} (h : cond (aab .lss a 0) true (aab .lss b 0) = true) : (decide (0 <= a) && decide (0 <= b)) = false:=by rw [a8x] at h; exact akq h
theorem bci {a b : Int} (h : cond (aab .lss a 0) true (aab .lss b 0) = false) : 0 <= a /\ 0 <= b := by
 rw [a8x] at h
 have := akj h
 simpa using this
end Go.Lw
namespace Go.Lw
end Go.Lw
namespace Go.Lw
def anc (g : Gr) (j : Jt) : Int := if g.bodies.contains j.a = true then (if g.bodies.contains j.b = true then -1 else j.b) else j.a
def av8 (l : Li) (g : Gr) : List Int := g.joints.map (fun j => anc g (l.joints.getD j.toNat default))
theorem ax2 (l : Li) (g : Gr) : (av8 l g).length = g.joints.length:=by unfold av8; rw [length_map]
section
variable {l : Li} {k : Int} {a : As} {own : Bool}
end
end Go.Lw
namespace Go.Lw
open Go.Proofs
end Go.Lw
namespace Go.Lw
open Go.Proofs
end Go.Lw
namespace Go.Lw
end Go.Lw
namespace Go.Lw
open Go.Proofs
section
variable {rs : List (List Rt)} {r u k : Nat} {a b c d e : List Rat} {x y z s t : Et (llq rs)} {w v w' v' w2 v2 w3 v3 w4 v4 : Nat}
end
end Go.Lw
namespace Go.Lw
section
variable (l : Li) (a : As)
end
section
variable {l : Li} {a : As} {g : Gr}
end
end Go.Lw
namespace Go.Lw
section
variable {ts : List (List Rat)}
end
section
variable {l : Li} {a : As} {g : Gr}
end
end Go.Lw
namespace Go.Lw
structure Ld where
  body : Int
  x : Rt
  y : Rt
  fx : Rt
  fy : Rt
  m : Rt
instance : Inhabited Ld := ⟨⟨0,⟨false,[],[]⟩,⟨false,[],[]⟩,⟨false,[],[]⟩,⟨false,[],[]⟩,⟨false,[],[]⟩⟩⟩
def Ld.l (f : Ld) : List Rt := [f.x,f.y,f.fx,f.fy,f.m]
def Ld.cells (f : Ld) : List AV := [i64 f.body,bl f.x.neg,ws f.x.num,ws f.x.den,bl f.y.neg,ws f.y.num,ws f.y.den,bl f.fx.neg,ws f.fx.num,ws f.fx.den,bl f.fy.neg,ws f.fy.num,ws f.fy.den,bl f.m.neg,ws f.m.num,ws f.m.den]
def Ld.av (f : Ld) : AV := .agg f.cells
section
variable (a : As)
end
section
variable {a : As} {r : List Vr}
end
end Go.Lw
namespace Go.Lw
structure LdOk (f : Ld) : Prop where
  ok : ∀ x ∈ f.l,x.ok
  qb : ∀ x ∈ f.l,Qb 4000 x.q
def bdw (f : Ld) : Prop := ∀ x ∈ f.l,x.ok /\ Qb 1000 x.q
theorem bdw.o {f : Ld} (h : bdw f) : LdOk f := ⟨fun x hx => (h x hx).1,fun x hx => (h x hx).2.mono (by omega)⟩
end Go.Lw
namespace Go.Lw
structure Bulk {H : Type} (bk : DataW H -> Nat) (bka : List (DataW H) -> Nat) : Prop where
  one : ∀ d,1 <= bk d
  nil : bka [] = 0
  cons : ∀ d l,bka (d :: l) = bk d + bka l
  slice : ∀ e s,bka e + 1 <= bk (.slice e s)
  agg : ∀ l,bka l <= bk (.agg l)
section
variable {P : Program} {W : World} {H : Type} {enc : TypeId × Value -> H} {bk : DataW H -> Nat} {bka : List (DataW H) -> Nat}
theorem Bulk.pick (B : Bulk bk bka) {α : Type} {m : α -> Nat} : ∀ {l : List α} {xs : List (DataW H)}, l.length <= xs.length -> (∀ (i : Nat) (a : α), l[i]? = some a -> ∃ x, xs[i]? = some x /\ m a <= bk x) -> (l.map m).sum <= bka xs
 | [],xs,_,_ => by simp
 | a :: l,[],hl,_ => by simp at hl
 | a :: l, x :: xs, hl, h => by
  obtain ⟨y,hy,h1⟩ := h 0 a rfl
  cases hy
  have h2 := B.pick (l := l) (xs := xs) (by simpa using hl) (fun i b hb => h (i + 1) b hb)
  rw [B.cons,map_cons,List.sum_cons]
  omega
def aql (P : Program) (W : World) (enc : TypeId × Value -> H) (bk : DataW H -> Nat) (t : TypeId) {α : Type} (f : α -> AV) (p : α -> Prop) (m : α -> Nat) : Prop :=
  ∀ (sp : Nat -> Bool) (fuel : Nat) (cs : List Value) (x : DataW H × List MemPlace),DataW.trod enc P W 0 sp true fuel t cs = some x -> (∀ n ∈ x.1.weights P t,n <= reachBytes) -> ∃ a,p a /\ CRp W cs (f a).cells /\ m a <= bk x.1
theorem adf.m {t : TypeId} {α : Type} {f : α -> AV} {p : α -> Prop} (h : adf P W enc t f p) : aql P W enc bk t f p (fun _ => 0) := by
 intro sp fuel cs x hx hw
 obtain ⟨a,h1,h2⟩ := h sp fuel cs x hx hw
 exact ⟨a,h1,h2,zero_le _⟩
theorem adf.m1 (B : Bulk bk bka) {t : TypeId} {α : Type} {f : α -> AV} {p : α -> Prop} (h : adf P W enc t f p) : aql P W enc bk t f p (fun _ => 1) := by
 intro sp fuel cs x hx hw
 obtain ⟨a,h1,h2⟩ := h sp fuel cs x hx hw
 exact ⟨a,h1,h2,B.one _⟩
theorem aql.map {α β : Type} {t : TypeId} {f : α -> AV} {p : α -> Prop} {m : α -> Nat} (h : aql P W enc bk t f p m) (g : α -> β) (f' : β -> AV) (p' : β -> Prop) (m' : β -> Nat) (hg : ∀ a, p a -> p' (g a) /\ f' (g a) = f a /\ m' (g a) <= m a) : aql P W enc bk t f' p' m' := by
 intro sp fuel cs x hx hwt
 obtain ⟨a,ha,hc,hm⟩ := h sp fuel cs x hx hwt
 obtain ⟨h1,h2,h3⟩ := hg a ha
 exact ⟨g a,h1,by rw [h2]; exact hc,le_trans h3 hm⟩
end
end Go.Lw
namespace Go.Lw
open Go.Proofs
section
variable {W : World} {H : Type} {enc : TypeId × Value -> H}
theorem bbi : adf prog W enc 271 (fun n : Nat => u32 n) (fun n => n < 4294967296) :=
 (arc (k := .u32) Tryz.underlying271).map Int.toNat _ _ (fun n h => by
  have h1 : 0 <= n /\ n <= 4294967295:=by simpa [Lit.wf,IntKind.min,IntKind.max,IntKind.signed,IntKind.bits] using h
  have h2 : ((n.toNat : Nat) : Int) = n:=by omega
  exact ⟨by omega,by unfold u32; rw [h2]⟩)
theorem bae : adf prog W enc 80 ws (fun l => Ws l /\ l.length <= 281474976710656) :=
 (adw Tryz.underlying80 (n := 1) (by kernel_rfl) (by omega) (by kernel_rfl) bbi (fun _ => rfl)).map id _ _ (fun l h => ⟨⟨fun x hx => h.1 x hx,h.2⟩,rfl⟩)
theorem axk : adf prog W enc 4 bl (fun _ => True) := awa Tryz.underlying4
theorem al3 : adf prog W enc 3 i64 (fun _ => True) := (arc (k := .i64) Tryz.underlying3).map id _ _ (fun n h => ⟨trivial,rfl⟩)
theorem ap2 : adf prog W enc 9 (fun s : ByteArray => AV.v (.string s)) (fun s => s.size <= 281474976710656) := aqw Tryz.underlying9
theorem ay6 : adf prog W enc 82 Rt.av Rt.wok :=
 (acp (n := 3) Tryz.underlying82 (by kernel_rfl)
  (.cons rfl (n := 1) (by kernel_rfl) axk (fun _ => rfl) (.cons rfl (n := 1) (by kernel_rfl) bae (fun _ => rfl) (.cons rfl (n := 1) (by kernel_rfl) bae (fun _ => rfl) (.nil _)))) (fun _ => rfl)).map
  (fun z => ⟨z.1,z.2.1,z.2.2.1⟩) _ _ (fun z h => ⟨⟨h.2.1.1,h.2.2.1.1⟩,rfl⟩)
theorem a64 : adf prog W enc 84 Tn.av (fun x => x.t.wok) :=
 (acp (n := 4) Tryz.underlying84 (by kernel_rfl) (.cons rfl (n := 3) (by kernel_rfl) ay6 (fun _ => rfl) (.cons rfl (n := 1) (by kernel_rfl) axk (fun _ => rfl) (.nil _))) (fun _ => rfl)).map
  (fun z => ⟨z.1,z.2.1⟩) _ _ (fun z h => ⟨h.1,rfl⟩)
theorem a1x : adf prog W enc 55 (fun l : List Tn => .lst 4 (l.map Tn.av)) (fun l => (∀ x ∈ l, x.t.wok) /\ l.length <= 281474976710656) :=
 adw Tryz.underlying55 (n := 4) (by kernel_rfl) (by omega) (by kernel_rfl) a64 (fun _ => rfl)
theorem a6j : adf prog W enc 120 Mk.av (fun m => m.name.size <= 281474976710656 /\ m.x.wok /\ m.y.wok) :=
 (acp (n := 7) Tryz.underlying120 (by kernel_rfl)
  (.cons rfl (n := 1) (by kernel_rfl) ap2 (fun _ => rfl) (.cons rfl (n := 3) (by kernel_rfl) ay6 (fun _ => rfl) (.cons rfl (n := 3) (by kernel_rfl) ay6 (fun _ => rfl) (.nil _)))) (fun _ => rfl)).map
  (fun z => ⟨z.1,z.2.1,z.2.2.1⟩) _ _ (fun z h => ⟨⟨h.1,h.2.1,h.2.2.1⟩,rfl⟩)
theorem a65 : adf prog W enc 118 Bd.av (fun b => b.name.size <= 281474976710656 /\ b.pts.length <= 281474976710656 /\ ∀ m ∈ b.pts, m.name.size <= 281474976710656 /\ m.x.wok /\ m.y.wok) :=
 (acp (n := 2) Tryz.underlying118 (by kernel_rfl)
  (.cons rfl (n := 1) (by kernel_rfl) ap2 (fun _ => rfl) (.cons rfl (n := 1) (by kernel_rfl) (adw Tryz.underlying116 (n := 7) (by kernel_rfl) (by omega) (by kernel_rfl) a6j (fun _ => rfl)) (fun _ => rfl) (.nil _))) (fun _ => rfl)).map
  (fun z => ⟨z.1,z.2.1⟩) _ _ (fun z h => ⟨⟨h.1,h.2.1.2,h.2.1.1⟩,rfl⟩)
theorem a2t : adf prog W enc 157 Jt.av (fun j => j.name.size <= 281474976710656) :=
 (acp (n := 7) Tryz.underlying157 (by kernel_rfl)
  (.cons rfl (n := 1) (by kernel_rfl) ap2 (fun _ => rfl) (.cons rfl (n := 1) (by kernel_rfl) al3 (fun _ => rfl) (.cons rfl (n := 1) (by kernel_rfl) al3 (fun _ => rfl) (.cons rfl (n := 1) (by kernel_rfl) al3 (fun _ => rfl)
   (.cons rfl (n := 1) (by kernel_rfl) al3 (fun _ => rfl) (.cons rfl (n := 1) (by kernel_rfl) al3 (fun _ => rfl) (.cons rfl (n := 1) (by kernel_rfl) al3 (fun _ => rfl) (.nil _)))))))) (fun _ => rfl)).map
  (fun z => ⟨z.1,z.2.1,z.2.2.1,z.2.2.2.1,z.2.2.2.2.1,z.2.2.2.2.2.1,z.2.2.2.2.2.2.1⟩) _ _ (fun z h => ⟨h.1,rfl⟩)
theorem azk : adf prog W enc 190 Dr.av (fun d => d.name.size <= 281474976710656) :=
 (acp (n := 2) Tryz.underlying190 (by kernel_rfl) (.cons rfl (n := 1) (by kernel_rfl) ap2 (fun _ => rfl) (.cons rfl (n := 1) (by kernel_rfl) al3 (fun _ => rfl) (.nil _))) (fun _ => rfl)).map
  (fun z => ⟨z.1,z.2.1⟩) _ _ (fun z h => ⟨h.1,rfl⟩)
abbrev liG (l : Li) : List AV := [.v (.string l.name),.lst 2 (l.bodies.map Bd.av),.lst 7 (l.joints.map Jt.av),.lst 2 (l.drivers.map Dr.av)]
theorem a61 : adf prog W enc 26 (fun l : Li => .agg (liG l)) Li.okw :=
 (acp (n := 4) Tryz.underlying26 (by kernel_rfl)
  (.cons rfl (n := 1) (by kernel_rfl) ap2 (fun _ => rfl)
   (.cons rfl (n := 1) (by kernel_rfl) (adw Tryz.underlying22 (n := 2) (by kernel_rfl) (by omega) (by kernel_rfl) a65 (fun _ => rfl)) (fun _ => rfl)
    (.cons rfl (n := 1) (by kernel_rfl) (adw Tryz.underlying23 (n := 7) (by kernel_rfl) (by omega) (by kernel_rfl) a2t (fun _ => rfl)) (fun _ => rfl)
     (.cons rfl (n := 1) (by kernel_rfl) (adw Tryz.underlying24 (n := 2) (by kernel_rfl) (by omega) (by kernel_rfl) azk (fun _ => rfl)) (fun _ => rfl) (.nil _))))) (fun _ => rfl)).map
  (fun z => ⟨z.1,z.2.1,z.2.2.1,z.2.2.2.1⟩) _ _ (fun z h => ⟨⟨h.1,h.2.1.1,h.2.2.1.1,h.2.2.2.1.1,h.2.1.2,h.2.2.1.2,h.2.2.2.1.2⟩,rfl⟩)
end
end Go.Lw
namespace Go.Lw
open Go.Proofs Go.Proofs.YtjidoooidfcjgaaGreat
open Go.ChangeShapes Go.WideShapes Go.ChangeAt Go.RowKit
theorem own : ownKnob prog.godebug = none:=by kernel_rfl
theorem azy : laidOutB prog = true:=by kernel_rfl
theorem a1s : prog.stopsHeard = true:=by kernel_rfl
theorem a2p : prog.plainKeys = true:=by kernel_rfl
theorem a7g : mapsRowed prog = true:=by kernel_rfl
theorem a1u : prog.mayEnter = true:=by kernel_rfl
theorem a2b : prog.liftsFinal = false:=by kernel_rfl
theorem aps {v : Value} (h : ∀ cs, v ≠ .agg cs) : v.cells = #[v] := by
 cases v <;> first | rfl | exact absurd rfl (h _)
theorem apz {P : Program} {W : World} {r : Reach} {b0 : Nat} {t e : TypeId} {v : Value} (ht : P.underlying t = some (.slice e)) (hval : Value.okWide P W r b0 t v) : v.cells = #[v] := by
 refine aps (fun cs h => ?_)
 subst h
 unfold Value.okWide at hval
 rw [ht] at hval
 unfold Cell.okWide at hval
 rw [ht] at hval
 unfold Cell.ok at hval
 rw [ht] at hval
 exact hval
theorem at4 {H : Type} {enc : TypeId × Value -> H} {W W' : World} {t : TypeId} {v : Value} {d : DataW H} {ps : List MemPlace} {sp' : Nat -> Bool} (hr : prog.readableRec t = true) (ht : t < prog.types.size)
  (h : DataW.Trod enc prog W 0 (fun _ => true) true t v d ps) (hb : Below W.heap.size W W') (hlt : ∀ x ∈ ps,x.block < W.heap.size) (hs : ∀ p ∈ ps,sp' p.block = true) : DataW.Trod enc prog W' 0 sp' true t v d ps :=
 WideElems.Trod_stays azy hr ht h (fun x hx => hb.same (hlt x hx)) hs
end Go.Lw
namespace Go.Lw
variable {P : Program}
mutual
def AV.pm (σ : Nat -> Nat) : AV -> AV
  | .ms k sz off len => .ms (σ k) sz off len
  | .ptr k off => .ptr (σ k) off
  | .eptr k sz i off => .eptr (σ k) sz i off
  | .yl k => .yl (σ k)
  | .agg cs => .agg (AV.pms σ cs)
  | .tup cs => .tup (AV.pms σ cs)
  | .fn f cs => .fn f (AV.pms σ cs)
  | .opt b x => .opt b (AV.pm σ x)
  | .v x => .v x
  | .lst sz l => .lst sz l
  | .iptr l => .iptr l
  | .cl f cs ds => .cl f cs ds
def AV.pms (σ : Nat -> Nat) : List AV -> List AV
  | [] => []
  | x :: l => AV.pm σ x :: AV.pms σ l
end
theorem AV.pms_eq (σ : Nat -> Nat) : ∀ l, AV.pms σ l = l.map (AV.pm σ)
 | [] => rfl
 | x :: l => by simp only [AV.pms,map_cons,AV.pms_eq σ l]
theorem AV.pm_one (σ : Nat -> Nat) (x : AV) (h : x.one = true) : (x.pm σ).one = true := by
 cases x <;> simp only [AV.pm] <;> exact h
mutual
theorem AV.pm_pm {σ : Nat -> Nat} (hσ : ∀ k, σ (σ k) = k) : ∀ x : AV, (x.pm σ).pm σ = x
 | .ms k sz off len => by simp only [AV.pm,hσ]
 | .ptr k off => by simp only [AV.pm,hσ]
 | .eptr k sz i off => by simp only [AV.pm,hσ]
 | .yl k => by simp only [AV.pm,hσ]
 | .agg cs => by simp only [AV.pm]; rw [AV.pms_pms hσ cs]
 | .tup cs => by simp only [AV.pm]; rw [AV.pms_pms hσ cs]
 | .fn f cs => by simp only [AV.pm]; rw [AV.pms_pms hσ cs]
 | .opt b x => by simp only [AV.pm]; rw [AV.pm_pm hσ x]
 | .v x => by simp only [AV.pm]
 | .lst sz l => by simp only [AV.pm]
 | .iptr l => by simp only [AV.pm]
 | .cl f cs ds => by simp only [AV.pm]
theorem AV.pms_pms {σ : Nat -> Nat} (hσ : ∀ k, σ (σ k) = k) : ∀ l : List AV, AV.pms σ (AV.pms σ l) = l
 | [] => by simp only [AV.pms]
 | x :: l => by simp only [AV.pms]; rw [AV.pm_pm hσ x,AV.pms_pms hσ l]
end
theorem avm {g : Nat -> Array Value -> Prop} {S : Nat -> Nat -> Prop} {σ : Nat -> Nat} (hσ : ∀ k, σ (σ k) = k) {m : Nat -> Option Nat} {v : Value} {x : AV} (h : Rep g S m v x) : Rep g S (fun k => m (σ k)) v (x.pm σ) := by
 induction h with
 | v x => exact .v x
 | lst0 a cap sz' => exact .lst0 a cap sz'
 | lst u hb hc hl hs ho hu hr _ => exact .lst u hb hc hl hs ho hu hr
 | iptr u hb ho hu hr _ => exact .iptr u hb ho hu hr
 | cl a b c d _ _ => exact .cl a b c d
 | ptr hm => exact .ptr (by simp only [hσ]; exact hm)
 | eptr hm => exact .eptr (by simp only [hσ]; exact hm)
 | yl hm => exact .yl (by simp only [hσ]; exact hm)
 | ms0 a k sz off => exact .ms0 _ _ _ _
 | ms hm hc hS => exact .ms (by simp only [hσ]; exact hm) hc hS
 | opt h h' ih => exact .opt ih h'
 | agg hn h1 hr ih =>
  simp only [AV.pm,AV.pms_eq]
  refine .agg (by simpa using hn) ?_ ?_
  ·intro j c hc
   simp only [getElem?_map,map_eq_some_iff] at hc
   obtain ⟨y,hy,rfl⟩ := hc
   exact AV.pm_one _ _ (h1 j y hy)
  ·intro j u c hu hc
   simp only [getElem?_map,map_eq_some_iff] at hc
   obtain ⟨y,hy,rfl⟩ := hc
   exact ih j u y hu hy
 | tup hn hr ih =>
  simp only [AV.pm,AV.pms_eq]
  refine .tup (by simpa using hn) ?_
  intro j u c hu hc
  simp only [getElem?_map,map_eq_some_iff] at hc
  obtain ⟨y,hy,rfl⟩ := hc
  exact ih j u y hu hy
 | fn hn hr ih =>
  simp only [AV.pm,AV.pms_eq]
  refine .fn (by simpa using hn) ?_
  intro j u c hu hc
  simp only [getElem?_map,map_eq_some_iff] at hc
  obtain ⟨y,hy,rfl⟩ := hc
  exact ih j u y hu hy
theorem baa {g : Nat -> Array Value -> Prop} {S : Nat -> Nat -> Prop} {σ : Nat -> Nat} (hσ : ∀ k, σ (σ k) = k) {m : Nat -> Option Nat} {w : World} {o : Option Nat} {x : Blk} (h : BlkRep g S m w o x) :
  BlkRep g S (fun k => m (σ k)) w o (x.map (AV.pm σ)) := by
 cases x with
 | row sz es => exact h.mono (fun _ _ h => h) (fun _ _ h => h) (fun _ _ hk => hk.elim) rfl (fun _ _ => rfl)
 | vec vs => exact h.mono (fun _ _ h => h) (fun _ _ h => h) (fun _ _ hk => hk.elim) rfl (fun _ _ => rfl)
 | loop => exact h.mapLoop _ (fun _ _ _ _ h => avm hσ h)
 | box cs =>
  cases h with
  | box hw hn h1 hrr =>
   refine .box hw (by simpa using hn) ?_ ?_
   ·intro j x hx
    simp only [getElem?_map,map_eq_some_iff] at hx
    obtain ⟨y,hy,rfl⟩ := hx
    exact AV.pm_one _ _ (h1 j y hy)
   ·intro j u x hu hx
    simp only [getElem?_map,map_eq_some_iff] at hx
    obtain ⟨y,hy,rfl⟩ := hx
    exact avm hσ (hrr j u y hu hy)
theorem a6m {σ : Nat -> Nat} (hσ : ∀ k, σ (σ k) = k) : ∀ sl : abf, ahy (AV.pm σ) (ahy (AV.pm σ) sl) = sl
 | [] => rfl
 | (t,none) :: l => by simp only [ahy,a6m hσ l]
 | (t,some x) :: l => by simp only [ahy,a6m hσ l,AV.pm_pm hσ x]
theorem Blk.pm_pm {σ : Nat -> Nat} (hσ : ∀ k, σ (σ k) = k) (x : Blk) : (x.map (AV.pm σ)).map (AV.pm σ) = x := by
 cases x with
 | row sz es => rfl
 | vec vs => rfl
 | loop d st pe sl => simp only [Blk.map,a6m hσ]
 | box cs =>
  simp only [Blk.map]
  rw [<- AV.pms_eq,<- AV.pms_eq,AV.pms_pms hσ]
def pmH (σ : Nat -> Nat) : Hp -> Hp
  | [] => []
  | (k,x) :: l => (σ k,match x with | some b => some (b.map (AV.pm σ)) | none => none) :: pmH σ l
theorem ahl {σ : Nat -> Nat} (hσ : ∀ k, σ (σ k) = k) : ∀ (H : Hp) (k : Nat), lk (pmH σ H) k = (lk H (σ k)).map (Blk.map (AV.pm σ))
 | [],k => rfl
 | (k', x) :: l, k => by
  simp only [pmH,aac,ahl hσ l k]
  by_cases h : k = σ k'
  ·rw [if_pos h, if_pos (by rw [h, hσ])]
   cases x <;> rfl
  ·rw [if_neg h,if_neg (fun e => h (by rw [<- e,hσ]))]
theorem ax9 {σ : Nat -> Nat} (hσ : ∀ k, σ (σ k) = k) (H : Hp) (m : Nat -> Option Nat) : Own (pmH σ H) (fun k => m (σ k)) = Own H m := by
 funext b
 apply propext
 constructor
 ·rintro ⟨k, z, hz, hb⟩
  rw [ahl hσ,map_eq_some_iff] at hz
  obtain ⟨y,hy,rfl⟩ := hz
  exact ⟨σ k,y,hy,hb⟩
 ·rintro ⟨k, y, hy, hb⟩
  exact ⟨σ k,y.map (AV.pm σ),by rw [ahl hσ,hσ,hy]; rfl,by simp only [hσ]; exact hb⟩
theorem axg {σ : Nat -> Nat} (hσ : ∀ k, σ (σ k) = k) {ext : Nat -> Prop} {H : Hp} {m : Nat -> Option Nat} {w : World} (h : HeapRel ext H m w) : HeapRel ext (pmH σ H) (fun k => m (σ k)) w := by
 have e : Im ext (pmH σ H) (fun k => m (σ k)) w = Im ext H m w:=by funext b cs; simp only [Im,ax9 hσ]
 refine ⟨?_,?_,?_⟩
 ·intro k z hz
  rw [ahl hσ,map_eq_some_iff] at hz
  obtain ⟨y,hy,rfl⟩ := hz
  rw [e]
  exact baa hσ (h.blk _ y hy)
 ·intro k k' z z' b hz hz' hb hb'
  rw [ahl hσ,map_eq_some_iff] at hz hz'
  obtain ⟨y,hy,_⟩ := hz
  obtain ⟨y',hy',_⟩ := hz'
  have := h.inj _ _ y y' b hy hy' hb hb'
  rw [<- hσ k,this,hσ]
 ·intro k z b hz hb
  rw [ahl hσ,map_eq_some_iff] at hz
  obtain ⟨y,hy,_⟩ := hz
  exact h.sep _ y b hy hb
theorem Con.pm {σ : Nat -> Nat} (hσ : ∀ k, σ (σ k) = k) {f : FuncId} {args : List AV} {H H' : Hp} {r : AV} (h : Con P f args H r H') : Con P f (args.map (AV.pm σ)) (pmH σ H) (r.pm σ) (pmH σ H') := by
 refine ⟨h.ok,?_⟩
 intro ext m w vs hext hheap hvs hrep
 have hlk : ∀ k, lk (pmH σ (pmH σ H)) k = lk H k := by
  intro k
  rw [ahl hσ,ahl hσ,hσ]
  cases lk H k with
  | none => rfl
  | some y => simp only [Option.map_some,Blk.pm_pm hσ]
 have hh := HeapRel.congr hlk (axg hσ hheap)
 have em : (fun k => (fun k => m (σ k)) (σ k)) = m:=by funext k; simp only [hσ]
 have eo : Own (pmH σ H) m = Own H (fun k => m (σ k)) := by
  have := ax9 hσ H (fun k => m (σ k))
  rw [em] at this; exact this
 have ei : Im ext (pmH σ H) m w = Im ext H (fun k => m (σ k)) w:=by funext b cs; simp only [Im,eo]
 refine Calls.mono (h.ret ext (fun k => m (σ k)) w vs hext hh (by simpa using hvs) (fun j v x hv hx => ?_)) ?_
 ·have h1 := hrep j v (x.pm σ) hv (by simp [hx])
  have h2 := avm hσ h1
  rw [AV.pm_pm hσ,ei] at h2
  exact h2
 ·rintro e w' ⟨v, m', rfl, hf, hh', hn, hk, hrr⟩
  refine ⟨v,fun k => m' (σ k),rfl,eo ▸ hf,axg hσ hh',?_,?_,?_⟩
  ·intro k x b hx hb
   rw [ahl hσ,map_eq_some_iff] at hx
   obtain ⟨y,hy,_⟩ := hx
   rw [eo]
   exact hn _ y b hy hb
  ·intro k x y hx hy
   rw [ahl hσ,map_eq_some_iff] at hx hy
   obtain ⟨x',hx',_⟩ := hx
   obtain ⟨y',hy',_⟩ := hy
   have := hk _ x' y' hx' hy'
   simpa only [hσ] using this
  ·have e2 : Im ext (pmH σ H') (fun k => m' (σ k)) w' = Im ext H' m' w' := by funext b cs; simp only [Im, ax9 hσ]
   rw [e2]
   exact avm hσ hrr
end Go.Lw
namespace Go.Lw
variable {P : Program} {N : Nat} {R : Array Oper} {s : AS}
def vk : Value -> Nat
  | .int .i64 _ => 1
  | .string _ => 2
  | _ => 0
def bb3 (P : Program) (t : TypeId) : Bool := match P.underlying t with | some .string => true | _ => false
theorem ba7 {t : TypeId} (h : bb3 P t = true) : P.underlying t = some .string := by
 unfold bb3 at h
 split at h
 ·assumption
 ·cases h
def fOk (P : Program) (ks : List Nat) (f : Field) : Bool := f.name != "_" && (match ks[f.offset]? with | some 1 => a0s P f.type | some 2 => bb3 P f.type | _ => false)
def bbu (P : Program) (T : TypeId) (ks : List Nat) : Bool := match P.underlying T with
  | some (.struct fs) => fs.toList.all (fOk P ks) && !P.stoodInHeld T && !P.eqGuardType P.depth T
  | _ => false
theorem ahq {cs : List Value} {ks : List Nat} (hk : cs.map vk = ks) (w : World) : ∀ {fs : List Field}, fs.all (fOk P ks) = true -> (Op.eqFields 9999 cs.toArray cs.toArray fs).run P w = .ok true w
 | [],_ => rfl
 | f :: fs, h => by
  rw [List.all_cons,and_eq_true] at h
  obtain ⟨h1,h2⟩ := h
  have ih := ahq hk w h2
  unfold fOk at h1
  rw [and_eq_true] at h1
  obtain ⟨hn,h1⟩ := h1
  have n1 : f.name ≠ "_" := by simpa using hn
  have hc : ∀ k, ks[f.offset]? = some k -> ∃ v, cs[f.offset]? = some v /\ vk v = k := by
   intro k hk2
   rw [<- hk,getElem?_map,map_eq_some_iff] at hk2
   exact hk2
  split at h1
  ·rename_i e
   obtain ⟨v,hv,hvk⟩ := hc 1 e
   have hu := as1 h1
   have e0 : cs.toArray[f.offset]? = some v:=by simpa using hv
   have e1 : (part f.type cs.toArray f.offset).run P w = .ok v w:=by simp [part,isAgg,run_underlying hu,e0]
   have : ∃ n,v = .int .i64 n:=by unfold vk at hvk; split at hvk; exact ⟨_,rfl⟩; cases hvk; cases hvk
   obtain ⟨n,rfl⟩ := this
   have e3 : (Op.equalIn 9999 f.type (.int .i64 n) (.int .i64 n)).run P w = .ok (n == n) w := run_equalIn_int w 9998 f.type .i64 .i64 n n hu
   simp only [Op.eqFields,n1,ne_eq,not_false_eq_true,if_true,Sem.run_bind,e1,e3,Result.andThen_ok,Sem.run_ite,beq_self_eq_true,Bool.not_true,Bool.false_eq_true,if_false,ih]
  ·rename_i e
   obtain ⟨v,hv,hvk⟩ := hc 2 e
   have hu := ba7 h1
   have e0 : cs.toArray[f.offset]? = some v:=by simpa using hv
   have e1 : (part f.type cs.toArray f.offset).run P w = .ok v w:=by simp [part,isAgg,run_underlying hu,e0]
   have : ∃ n,v = .string n:=by unfold vk at hvk; split at hvk; cases hvk; exact ⟨_,rfl⟩; cases hvk
   obtain ⟨n,rfl⟩ := this
   have e3 : (Op.equalIn 9999 f.type (.string n) (.string n)).run P w = .ok (n.toList == n.toList) w := run_equalIn_string w 9998 f.type n n hu
   simp only [Op.eqFields,n1,ne_eq,not_false_eq_true,if_true,Sem.run_bind,e1,e3,Result.andThen_ok,Sem.run_ite,beq_self_eq_true,Bool.not_true,Bool.false_eq_true,if_false,ih]
  ·cases h1
theorem am8 {T : TypeId} {cs : List Value} {ks : List Nat} (hk : cs.map vk = ks) (h : bbu P T ks = true) (w : World) :
  (Op.equalIn 10000 T (.agg cs.toArray) (.agg cs.toArray)).run P w = .ok true w /\ P.eqGuardType P.depth T = false := by
 unfold bbu at h
 split at h
 ·rename_i fs hu
  rw [and_eq_true,and_eq_true] at h
  obtain ⟨⟨h,h1⟩,h2⟩ := h
  have hF : P.fieldsOf T = fs:=by unfold Program.fieldsOf; rw [hu]
  have hs : P.stoodInHeld T = false:=by simpa using h1
  refine ⟨?_,by simpa using h2⟩
  rw [run_equalIn_struct w 9999 T _ _ (by rw [hF]; exact hu) hs,hF]
  exact ahq hk w h
 ·cases h
theorem at7 {g : Nat -> Array Value -> Prop} {S : Nat -> Nat -> Prop} {m : Nat -> Option Nat} {u : Value} {cs : List Value} (h : Rep g S m u (.agg (cs.map .v))) : u = .agg cs.toArray := by
 cases h with
 | @agg _ vs _ hn h1 hrr =>
  rw [length_map] at hn
  congr 1
  refine Array.ext (by simpa using hn) (fun i hi hi2 => ?_)
  have hi3 : i < cs.length:=by simpa using hi2
  have r := hrr i vs[i] (.v cs[i]) (by simp [hi]) (by simp [hi3])
  have r2 : ∀ {y z : Value},Rep g S m y (.v z) -> y = z := fun h => by cases h; rfl
  rw [r2 r]; simp
theorem azz {d : Nat} {x y : Operand} {cs : List Value} {ks : List Nat} {S T t : TypeId} {pos : String} {after : Array Edge} (hx : Ev s x (.agg (cs.map .v))) (hy : Ev s y (.agg (cs.map .v)))
  (hk : cs.map vk = ks) (hS : bbu P S ks = true) (hN : Nat.blt d N = true) :
  Step P N R s ⟨some d,.binOp .neq S x y T,t,pos,after,none⟩ ⟨some (.v (.bool false)),[],aah x ++ aah y,[]⟩ :=
 aan rfl rfl hN fun s' hag C m ac w hr => ⟨.bool false, by
  have h := at7 ((hx.agree hag (fun _ h => List.mem_append.2 (.inl h))).rep hr)
  have h' := at7 ((hy.agree hag (fun _ h => List.mem_append.2 (.inr h))).rep hr)
  obtain ⟨r1,r2⟩ := am8 (T := S) hk hS w
  simp only [execOp,h,h',Sem.run_bind,run_eqGuard_agg w .neq S x y _ _ r2,Result.andThen_ok,run_neq_struct,r1,Sem.run_pure,Bool.not_true],.v _⟩
end Go.Lw
namespace Go.Lw
variable {P : Program} {N : Nat}
def rdC (s : AS) : Operand -> Option AV
  | .tmp t => match s.get t with
    | some x => match x with
      | .opt _ _ => none
      | x => some x
    | none => none
  | .const c => some (.v c)
  | .func f => some (.v (.func (.func f) #[] #[]))
  | .global _ => none
theorem aa3 {s : AS} {o : Operand} {x : AV} (h : rdC s o = some x) : Ev s o x := by
 cases o with
 | tmp t =>
  simp only [rdC] at h
  split at h
  ·rename_i y hy
   split at h
   ·cases h
   ·cases h; exact .tmp hy
  ·cases h
 | const c => cases h; exact .const c
 | func f => cases h; exact .func f
 | global n => cases h
def a8l (s : AS) : List Operand -> Option (List AV)
  | [] => some []
  | o :: os => match rdC s o with
    | some x => match a8l s os with
      | some xs => some (x :: xs)
      | none => none
    | none => none
theorem ajs {s : AS} : ∀ {os : List Operand} {xs : List AV}, a8l s os = some xs -> EvL s os xs
 | [],xs,h => by cases h; exact .nil
 | o :: os, xs, h => by
  unfold a8l at h
  split at h
  ·rename_i x h1
   split at h
   ·rename_i ys h2; cases h; exact .cons (aa3 h1) (ajs h2)
   ·cases h
  ·cases h
def wN {α : Type} (n : Nat) (f : Nat -> α) : α := match n with
  | 0 => f 0
  | m + 1 => f (m + 1)
theorem asl {α : Type} (n : Nat) (f : Nat -> α) : wN n f = f n:=by cases n <;> rfl
def wI {α : Type} (z : Int) (f : Int -> α) : α := match z with
  | .ofNat n => match n with
    | 0 => f 0
    | m + 1 => f (Int.ofNat (m + 1))
  | .negSucc n => f (.negSucc n)
theorem apa {α : Type} (z : Int) (f : Int -> α) : wI z f = f z := by
 cases z with
 | ofNat n => cases n <;> rfl
 | negSucc n => rfl
structure V1 where
  x : AV
  rt : List Nat
  rd : List Nat
def a4k : Value -> Bool
  | .nilIface => true
  | .iface _ _ => true
  | _ => false
theorem aq1 {v : Value} (h : a4k v = true) : a58 v := by
 cases v <;> first | exact .inl rfl | exact .inr ⟨_,_,rfl⟩ | cases h
def a6q : BinOp -> Bool
  | .and | .or | .xor | .andNot => true
  | _ => false
theorem a34 : ∀ {op : BinOp},a6q op = true -> (match op with | .and | .or | .xor | .andNot => true | _ => false) = true:=by intro op; cases op <;> intro h <;> first | rfl | cases h
def a8f (op : BinOp) (x y : Operand) (k k' : IntKind) (a b : Int) : Option V1 := match op with
  | .add | .sub | .mul => match Nat.beq (ikn k) (ikn k') with
    | true => wI (k.wrap (ac5 op a b)) fun z => some ⟨.v (.int k z),aah x ++ aah y,[]⟩
    | false => none
  | .quo => match Nat.beq (ikn k) (ikn k') with
    | true => match b with
      | .ofNat 0 => none
      | b => wI (k.wrap (a.tdiv b)) fun z => some ⟨.v (.int k z),aah x ++ aah y,[]⟩
    | false => none
  | .rem => match Nat.beq (ikn k) (ikn k') with
    | true => match b with
      | .ofNat 0 => none
      | b => wI (a.tmod b) fun z => some ⟨.v (.int k z),aah x ++ aah y,[]⟩
    | false => none
  | .shl => match b with
    | .ofNat n => wI (k.wrap (a * 2 ^ (min n k.bits))) fun z => some ⟨.v (.int k z),aah x ++ aah y,[]⟩
    | .negSucc _ => none
  | .shr => match b with
    | .ofNat n => wI (a.fdiv (2 ^ (min n k.bits))) fun z => some ⟨.v (.int k z),aah x ++ aah y,[]⟩
    | .negSucc _ => none
  | .eql | .neq | .lss | .leq | .gtr | .geq => match Nat.beq (ikn k) (ikn k') with
    | true => match aab op a b with
      | true => some ⟨.v (.bool true),aah x ++ aah y,[]⟩
      | false => some ⟨.v (.bool false),aah x ++ aah y,[]⟩
    | false => none
  | op => match a6q op && Nat.beq (ikn k) (ikn k') with
    | true => wI (apj op k a b) fun z => some ⟨.v (.int k z),aah x ++ aah y,[]⟩
    | false => none
section
variable {s : AS} {R : Array Oper} {d : Nat} {t T : TypeId} {pos : String} {after : Array Edge}
theorem a5m {op : BinOp} {x y : Operand} {k k' : IntKind} {a b : Int} {S : TypeId} {r : V1} (hx : Ev s x (.v (.int k a))) (hy : Ev s y (.v (.int k' b))) (h : a8f op x y k k' a b = some r) (hN : Nat.blt d N = true) :
  Step P N R s ⟨some d,.binOp op S x y T,t,pos,after,none⟩ ⟨some r.x,[],r.rt,r.rd⟩ := by
 have hc : ∀ (op : BinOp), a2r op = true -> (match Nat.beq (ikn k) (ikn k') with
  | true => match aab op a b with
   | true => some (⟨.v (.bool true),aah x ++ aah y,[]⟩ : V1)
   | false => some ⟨.v (.bool false),aah x ++ aah y,[]⟩
  | false => none) = some r -> Step P N R s ⟨some d,.binOp op S x y T,t,pos,after,none⟩ ⟨some r.x,[],r.rt,r.rd⟩ := by
  intro op hop h'
  split at h'
  ·rename_i hk
   cases af3 hk
   have := a8w (P := P) (R := R) (op := op) (S := S) (T := T) (t := t) (pos := pos) (after := after) hx hy (by cases op <;> simp_all [a2r]) hN
   split at h'
   ·rename_i hb; cases h'; rw [hb] at this; exact this
   ·rename_i hb; cases h'; rw [hb] at this; exact this
  ·cases h'
 have ha : ∀ (op : BinOp), bdt op = true -> (match Nat.beq (ikn k) (ikn k') with
  | true => wI (k.wrap (ac5 op a b)) fun z => some (⟨.v (.int k z),aah x ++ aah y,[]⟩ : V1)
  | false => none) = some r -> Step P N R s ⟨some d,.binOp op S x y T,t,pos,after,none⟩ ⟨some r.x,[],r.rt,r.rd⟩ := by
  intro op hop h'
  split at h'
  ·rename_i hk
   cases af3 hk
   rw [apa] at h'
   cases h'
   exact a0r hx hy (axc hop) hN
  ·cases h'
 have hb : ∀ (op : BinOp), (match a6q op && Nat.beq (ikn k) (ikn k') with
  | true => wI (apj op k a b) fun z => some (⟨.v (.int k z),aah x ++ aah y,[]⟩ : V1)
  | false => none) = some r -> Step P N R s ⟨some d,.binOp op S x y T,t,pos,after,none⟩ ⟨some r.x,[],r.rt,r.rd⟩ := by
  intro op h'
  split at h'
  ·rename_i hk
   simp only [and_eq_true] at hk
   cases af3 hk.2
   rw [apa] at h'
   cases h'
   exact a4w hx hy (a34 hk.1) hN
  ·cases h'
 cases op with
 | add => exact ha _ rfl h
 | sub => exact ha _ rfl h
 | mul => exact ha _ rfl h
 | quo =>
  simp only [a8f] at h
  split at h
  ·rename_i hk
   cases af3 hk
   split at h
   ·cases h
   ·rename_i hb0
    rw [apa] at h; cases h
    exact ban hx hy (fun e => hb0 (by rw [e]; rfl)) hN
  ·cases h
 | rem =>
  simp only [a8f] at h
  split at h
  ·rename_i hk
   cases af3 hk
   split at h
   ·cases h
   ·rename_i hb0
    rw [apa] at h; cases h
    exact a8t hx hy (fun e => hb0 (by rw [e]; rfl)) hN
  ·cases h
 | shl =>
  simp only [a8f] at h
  split at h
  ·rename_i n
   rw [apa] at h
   obtain rfl := Option.some.inj h
   have := bad (P := P) (R := R) (S := S) (T := T) (t := t) (pos := pos) (after := after) hx hy (Int.natCast_nonneg n) hN
   simp only [Int.ofNat_eq_natCast,Int.toNat_natCast] at this
   exact this
  ·cases h
 | shr =>
  simp only [a8f] at h
  split at h
  ·rename_i n
   rw [apa] at h
   obtain rfl := Option.some.inj h
   have := a88 (P := P) (R := R) (S := S) (T := T) (t := t) (pos := pos) (after := after) hx hy (Int.natCast_nonneg n) hN
   simp only [Int.ofNat_eq_natCast,Int.toNat_natCast] at this
   exact this
  ·cases h
 | eql => exact hc _ rfl h
 | neq => exact hc _ rfl h
 | lss => exact hc _ rfl h
 | leq => exact hc _ rfl h
 | gtr => exact hc _ rfl h
 | geq => exact hc _ rfl h
 | _ => exact hb _ h
end
def neB (op : BinOp) (b : Bool) : Bool := match op with
  | .eql => b
  | _ => !b
def bco : AV -> Option Bool
  | .v (.slice none 0 0) => some true
  | .lst _ (_ :: _) => some false
  | .ms _ _ _ (_ + 1) => some false
  | _ => none
theorem axs {S : TypeId} {w : World} {E : TypeId} (h3 : (underlying S).run P w = .ok (.slice E) w) {a : Option Addr} {n c : Nat} :
  (Op.equal S (.slice a n c) (.slice none 0 0)).run P w = .ok a.isNone w := by
 show (Op.equalIn (9999 + 1) S _ _).run P w = _
 rw [Op.equalIn]
 cases a <;> simp [h3]
theorem a62 {s : AS} {R : Array Oper} {d : Nat} {x : Operand} {xv : AV} {b : Bool} {op : BinOp} {S T t E : TypeId} {ti : TI} {pos : String} {after : Array Edge} (hop : op = .eql \/ op = .neq)
  (hx : Ev s x xv) (hv : bco xv = some b) (hS : aae P S = some ti) (hk : ti.k = .slice E) (hN : Nat.blt d N = true) :
  Step P N R s ⟨some d,.binOp op S x (.const (.slice none 0 0)) T,t,pos,after,none⟩ ⟨some (.v (.bool (neB op b))),[],aah x,[]⟩ :=
 aan rfl rfl hN fun s' hag C m a w hr => ⟨.bool (neB op b), by
  have h := (hx.agree hag (fun _ h => h)).rep hr
  obtain ⟨d2,h3,h4,-,-⟩ := abd hS w
  obtain rfl := ab0 (h4.trans hk)
  have h2 : a.eval (.const (.slice none 0 0)) = .slice none 0 0 := rfl
  obtain ⟨ad, n, c, he, hb⟩ : ∃ ad n c, a.eval x = .slice ad n c /\ ad.isNone = b := by
   generalize a.eval x = u at h
   unfold bco at hv
   split at hv
   ·cases hv; cases h; exact ⟨_,_,_,rfl,rfl⟩
   ·cases hv
    cases h with
    | lst u hb hc hl hs h1 hu hr => exact ⟨_,_,_,rfl,rfl⟩
   ·cases hv
    cases h with
    | ms hm hc hS => exact ⟨_,_,_,rfl,rfl⟩
   ·cases hv
  have h5 := axs (P := P) (a := ad) (n := n) (c := c) h3
  rcases hop with rfl | rfl <;> simp [execOp,he,h2,eqGuard,binOp,h5,hb,neB],.v _⟩
theorem avw {s : AS} {R : Array Oper} {d : Nat} {x : Operand} {lo hi : Option Operand} {T E t : TypeId} {ti te : TI} {pos : String} {after : Array Edge}
  (hx : Ev s x (.v (.slice none 0 0))) (hl : EvI s lo 0 0) (hh : EvI s hi 0 0) (hT : aae P T = some ti) (hk : ti.k = .slice E) (hE : aae P E = some te) (hN : Nat.blt d N = true) :
  Step P N R s ⟨some d,.slice T x lo hi none,t,pos,after,none⟩ ⟨some (.v (.slice none 0 0)),[],aah x ++ (rtO lo ++ rtO hi),[]⟩ :=
 aan rfl rfl hN fun s' hag C m a w hr => by
  have hxv := akb hr (hx.agree hag (fun _ h => List.mem_append.2 (.inl h)))
  have hl' := hl.agree hag (fun _ h => List.mem_append.2 (.inr (List.mem_append.2 (.inl h))))
  have hh' := hh.agree hag (fun _ h => List.mem_append.2 (.inr (List.mem_append.2 (.inr h))))
  obtain ⟨d2,hu,h3,-,-⟩ := abd hT w
  obtain rfl := ab0 (h3.trans hk)
  have := acs (P := P) hr (cap := 0) true hl' hh' (le_refl _) (le_refl _)
  exact ⟨.slice none 0 0,by simp [execOp,hxv,Instr.sliceAt,hu,Instr.slice,this,aa7 hE],.v _⟩
theorem a03 {s : AS} {R : Array Oper} {d : Nat} {x : Operand} {k1 k2 : IntKind} {sz : Nat} {es : List AV} {T E t : TypeId} {ti te : TI} {pos : String} {after : Array Edge}
  (hx : Ev s x (.lst sz es)) (hT : aae P T = some ti) (hk : ti.k = .slice E) (hE : aae P E = some te) (hsz : te.size = sz) (hN : Nat.blt d N = true) :
  Step P N R s ⟨some d,.slice T x none (some (.const (.int k1 0))) (some (.const (.int k2 0))),t,pos,after,none⟩ ⟨some (.ms d sz 0 0),[(d,some (.row sz []))],aah x,[]⟩ := by
 refine ao4 rfl ?_
 intro s' hag hnew C m a w next hC hr hnext
 have hfr : s'.Fresh d := by
  rcases hnew d (by simp) with h | h
  ·cases h
  ·exact h
 have hxr := (hx.agree hag (fun _ h => h)).rep hr
 obtain ⟨d2,hu,h3,-,-⟩ := abd hT w
 obtain rfl := ab0 (h3.trans hk)
 obtain ⟨ad, n, c, he⟩ : ∃ ad n c, a.eval x = .slice ad n c := by
  generalize a.eval x = u at hxr
  cases hxr with
  | lst0 a cap => exact ⟨_,_,_,rfl⟩
  | lst u hb hc hl hs h1 hu hr => exact ⟨_,_,_,rfl⟩
 have e1 : a.eval (.const (.int k1 0)) = .int k1 0 := rfl
 have e2 : a.eval (.const (.int k2 0)) = .int k2 0 := rfl
 have hex : (execOp a.eval ⟨some d, .slice T x none (some (.const (.int k1 0))) (some (.const (.int k2 0))), t, pos, after, none⟩).run P w = .ok (.value (.slice ad 0 0)) w := by
  simp [execOp,he,e1,e2,Instr.sliceAt,hu,Instr.slice,Instr.sliceBounds,Instr.sliceBound,asIntOf,aa7 hE]
 rw [hex]
 rw [Nat.blt_eq] at hN
 simp only [Oper.upon,Act.put]
 obtain ⟨m2,h1⟩ : ∃ m2,RelM C ⟨s'.sl,(d,some (.row sz [])) :: s'.hp⟩ m2 a w := ⟨_,hr.virt sz hfr⟩
 refine hnext m2 _ _ ?_
 have := h1.put d (.slice ad 0 0) (some (.ms d sz 0 0)) (fun z hz => by
  cases hz
  exact ⟨by have := hr.nt; omega,.ms0 _ _ _ _⟩)
 simpa [AS.app] using this
variable [Inhabited (Tys P)]
def bd0 : BinOp -> Bool
  | .eql | .neq => true
  | _ => false
def bbq : List UInt8 -> List UInt8 -> Bool
  | [], y => match y with
    | [] => true
    | _ => false
  | x :: l, y => match y with
    | x' :: l' => match Nat.beq x.toNat x'.toNat with
      | true => bbq l l'
      | false => false
    | [] => false
theorem ato : ∀ {a b : List UInt8}, bbq a b = (a == b)
 | [],[] => rfl
 | [],_ :: _ => rfl
 | _ :: _,[] => rfl
 | x :: l, x' :: l' => by
  show (match Nat.beq x.toNat x'.toNat with | true => bbq l l' | false => false) = _
  cases h : Nat.beq x.toNat x'.toNat with
  | true =>
   have : x = x' := UInt8.toNat_inj.1 (eq_of_beq_eq_true h)
   subst this
   simp only [ato (a := l)]
   simp
  | false =>
   have : x ≠ x' := fun e => Nat.ne_of_beq_eq_false h (by rw [e])
   simp [this]
def a3h (a b : ByteArray) : Bool := bbq a.data.toList b.data.toList
theorem ath (a b : ByteArray) : (a.toList == b.toList) = a3h a b := by
 unfold a3h; rw [ato,ByteArray.toList_eq,ByteArray.toList_eq]
def bcf (P : Program) [Inhabited (Tys P)] (op : BinOp) (S : TypeId) (x y : Operand) (vx vy : Value) : Option V1 := match vx with
  | .int k a => match vy with
    | .int k' b => a8f op x y k k' a b
    | _ => none
  | vx => match vy with
    | .nilIface => match y with
      | .const _ => match a4k vx with
        | true => match agi P S with
          | some ti => match ti.k with
            | .iface _ => match op with
              | .eql => some ⟨.v (.bool (agf vx)),aah x ++ [],[]⟩
              | .neq => some ⟨.v (.bool !(agf vx)),aah x ++ [],[]⟩
              | _ => none
            | _ => none
          | none => none
        | false => none
      | _ => none
    | .string b => match vx with
      | .string a => match op with
        | .eql => match a3h a b with
          | true => some ⟨.v (.bool true),aah x ++ aah y,[]⟩
          | false => some ⟨.v (.bool false),aah x ++ aah y,[]⟩
        | .neq => match a3h a b with
          | true => some ⟨.v (.bool false),aah x ++ aah y,[]⟩
          | false => some ⟨.v (.bool true),aah x ++ aah y,[]⟩
        | _ => none
      | _ => none
    | vy => match a8k P op S x y [] vx vy with
      | some r => match r.ob with
        | [] => some ⟨r.x,r.rt,r.rd⟩
        | _ => none
      | none => none
def a6x (P : Program) [Inhabited (Tys P)] (T sz : Nat) : Bool := match agi P T with
  | some ti => match ti.k with
    | .slice E => match agi P E with
      | some te => Nat.beq te.size sz
      | none => false
    | _ => false
  | none => false
theorem amj {T sz : Nat} (h : a6x P T sz = true) : ∃ ti E te, aae P T = some ti /\ ti.k = .slice E /\ aae P E = some te /\ te.size = sz := by
 unfold a6x at h
 split at h
 ·rename_i ti hti
  split at h
  ·rename_i E hk
   split at h
   ·rename_i te hte
    exact ⟨ti,E,te,aas hti,hk,aas hte,eq_of_beq_eq_true h⟩
   ·cases h
  ·cases h
 ·cases h
def bdC (s : AS) (o : Option Operand) (d : Nat) : Option Nat := match o with
  | none => some d
  | some x => match rdC s x with
    | some (.v (.int _ (.ofNat n))) => some n
    | _ => none
theorem anz {s : AS} {o : Option Operand} {d n : Nat} (h : bdC s o d = some n) : EvI s o d n := by
 cases o with
 | none => cases h; exact .none d
 | some x =>
  simp only [bdC] at h
  split at h
  ·rename_i hx
   cases h
   exact .some (i := Int.ofNat n) d (aa3 hx) (Int.natCast_nonneg _)
  ·cases h
def ldE (ti : TI) (l : List AV) : Option AV := match ti.ag with
  | true => match frc (l.take ti.size) with
    | some r => some (.agg r)
    | none => none
  | false => match Nat.beq ti.size 1 with
    | true => match l with
      | x :: _ => some x
      | [] => none
    | false => none
theorem a9r {ti : TI} {l : List AV} {x : AV} (h : ldE ti l = some x) : (ti.ag || Nat.beq ti.size 1) = true /\ x = mkT ti.ag (l.take ti.size) := by
 unfold ldE at h
 split at h
 ·rename_i ha
  split at h
  ·rename_i r hr; cases h; rw [ha,ae3 hr]; exact ⟨rfl,rfl⟩
  ·cases h
 ·rename_i ha
  split at h
  ·rename_i h1
   split at h
   ·cases h; rw [ha,eq_of_beq_eq_true h1]; exact ⟨rfl,rfl⟩
   ·cases h
  ·cases h
def a8m : List AV -> List AV -> Option (List Value × List Nat)
  | [],[] => some ([],[])
  | .v (.int .i64 a) :: l, .v (.int .i64 b) :: l' => match a == b with
    | true => match a8m l l' with
      | some (vs,ks) => some (.int .i64 a :: vs,1 :: ks)
      | none => none
    | false => none
  | .v (.string a) :: l, .v (.string b) :: l' => match a3h a b with
    | true => match a8m l l' with
      | some (vs,ks) => some (.string a :: vs,2 :: ks)
      | none => none
    | false => none
  | _,_ => none
theorem a59 {a b : ByteArray} (h : a3h a b = true) : a = b := by
 rw [<- ath,beq_iff_eq,ByteArray.toList_eq,ByteArray.toList_eq] at h
 cases a; cases b; congr 1
 exact Array.ext' h
theorem ar0 : ∀ {l l' : List AV} {vs : List Value} {ks : List Nat}, a8m l l' = some (vs, ks) -> l = vs.map .v /\ l' = vs.map .v /\ vs.map vk = ks
 | [],[],_,_,h => by cases h; exact ⟨rfl,rfl,rfl⟩
 | .v (.int .i64 a) :: l, .v (.int .i64 b) :: l', _, _, h => by
  rw [a8m] at h
  split at h
  ·rename_i he
   split at h
   ·rename_i vs ks hs
    obtain ⟨h1,h2,h3⟩ := ar0 hs
    cases h
    cases eq_of_beq he
    exact ⟨by rw [h1]; rfl,by rw [h2]; rfl,by rw [<- h3]; rfl⟩
   ·cases h
  ·cases h
 | .v (.string a) :: l, .v (.string b) :: l', _, _, h => by
  rw [a8m] at h
  split at h
  ·rename_i he
   split at h
   ·rename_i vs ks hs
    obtain ⟨h1,h2,h3⟩ := ar0 hs
    cases h
    cases a59 he
    exact ⟨by rw [h1]; rfl,by rw [h2]; rfl,by rw [<- h3]; rfl⟩
   ·cases h
  ·cases h
def bc1 (P : Program) (op : BinOp) (S : TypeId) (x y : Operand) (cs cs' : List AV) : Option V1 := match op with
  | .neq => match a8m cs cs' with
    | some (_, ks) => match bbu P S ks with
      | true => some ⟨.v (.bool false),aah x ++ aah y,[]⟩
      | false => none
    | none => none
  | _ => none
omit [Inhabited (Tys P)] in
theorem a6l {s : AS} {R : Array Oper} {d : Nat} {x y : Operand} {cs cs' : List AV} {op : BinOp} {S T t : TypeId} {pos : String} {after : Array Edge} {r : V1} (h : bc1 P op S x y cs cs' = some r)
  (hx : Ev s x (.agg cs)) (hy : Ev s y (.agg cs')) (hN : Nat.blt d N = true) : Step P N R s ⟨some d,.binOp op S x y T,t,pos,after,none⟩ ⟨some r.x,[],r.rt,r.rd⟩ := by
 unfold bc1 at h
 split at h
 ·split at h
  ·rename_i vs ks hs
   obtain ⟨h1,h2,h3⟩ := ar0 hs
   subst h1; subst h2
   split at h
   ·rename_i hS; cases h; exact azz hx hy h3 hS hN
   ·cases h
  ·cases h
 ·cases h
def a7r (P : Program) (t : TypeId) : Bool := match P.underlying t with | some (.pointer _) => true | _ => false
omit [Inhabited (Tys P)] in
theorem au0 {t : TypeId} (h : a7r P t = true) : P.underlying t = some (.pointer (P.pointee t)) := by
 unfold a7r at h
 split at h
 ·rename_i e he
  rw [he]
  unfold Program.pointee
  rw [he]
 ·cases h
omit [Inhabited (Tys P)] in
theorem a5f {s : AS} {R : Array Oper} {d : Nat} {x : Operand} {k off : Nat} {op : BinOp} {S T t : TypeId} {pos : String} {after : Array Edge} (hop : op = .eql \/ op = .neq)
  (hx : Ev s x (.ptr k off)) (hS : a7r P S = true) (hN : Nat.blt d N = true) :
  Step P N R s ⟨some d,.binOp op S x (.const (.pointer none)) T,t,pos,after,none⟩ ⟨some (.v (.bool (neB op false))),[],aah x,[]⟩ :=
 aan rfl rfl hN fun s' hag C m a w hr => ⟨.bool (neB op false), by
  have h := (hx.agree hag (fun _ h => h)).rep hr
  have h2 : a.eval (.const (.pointer none)) = .pointer none := rfl
  have hu := au0 hS
  generalize ha : a.eval x = u at h
  cases h
  rcases hop with rfl | rfl
  ·simp [execOp,ha,h2,eqGuard,run_eql_pointer_nil w S _ hu,neB]
  ·simp [execOp,ha,h2,eqGuard,run_neq_pointer_nil w S _ hu,neB],.v _⟩
def ptV (P : Program) (op : BinOp) (S : TypeId) (x y : Operand) : Option V1 := match y with
  | .const (.pointer none) => match bd0 op with
    | true => match a7r P S with
      | true => match op with
        | .eql => some ⟨.v (.bool false),aah x,[]⟩
        | _ => some ⟨.v (.bool true),aah x,[]⟩
      | false => none
    | false => none
  | _ => none
omit [Inhabited (Tys P)] in
theorem baq {s : AS} {R : Array Oper} {d : Nat} {x y : Operand} {k off : Nat} {op : BinOp} {S T t : TypeId} {pos : String} {after : Array Edge} {r : V1} (h : ptV P op S x y = some r)
  (hx : Ev s x (.ptr k off)) (hN : Nat.blt d N = true) : Step P N R s ⟨some d,.binOp op S x y T,t,pos,after,none⟩ ⟨some r.x,[],r.rt,r.rd⟩ := by
 unfold ptV at h
 split at h
 ·split at h
  ·rename_i hop
   have hop : op = .eql \/ op = .neq:=by cases op <;> first | exact .inl rfl | exact .inr rfl | cases hop
   split at h
   ·rename_i hS
    have h9 := a5f (P := P) (R := R) (T := T) (t := t) (pos := pos) (after := after) hop hx hS hN
    rcases hop with rfl | rfl <;> (cases h; exact h9)
   ·cases h
  ·cases h
 ·cases h
def bdx (P : Program) (op : BinOp) (S : TypeId) (x y : Operand) (a b c e : Int) : Option V1 := match op with
  | .eql => match bbr P S with
    | true => match a == c && b == e with
      | true => some ⟨.v (.bool true),aah x ++ aah y,[]⟩
      | false => some ⟨.v (.bool false),aah x ++ aah y,[]⟩
    | false => none
  | _ => none
def opV (P : Program) [Inhabited (Tys P)] (s : AS) (op : Op) : Option V1 := match op with
  | .pick c x y => match rdC s c with
    | some (.v (.bool b)) => match b with
      | true => match rdC s x with
        | some (.v (.bool z)) => some ⟨.v (.bool z),aah c ++ (aah x ++ aah y),[]⟩
        | _ => none
      | false => match rdC s y with
        | some (.v (.bool z)) => some ⟨.v (.bool z),aah c ++ (aah x ++ aah y),[]⟩
        | _ => none
    | _ => none
  | .binOp op S x (.const (.slice none 0 0)) _ => match bd0 op with
    | true => match rdC s x with
      | some xv => match bco xv with
        | some b => match agi P S with
          | some ti => match ti.k with
            | .slice _ => match op with
              | .eql => some ⟨.v (.bool b),aah x,[]⟩
              | _ => match b with
                | true => some ⟨.v (.bool false),aah x,[]⟩
                | false => some ⟨.v (.bool true),aah x,[]⟩
            | _ => none
          | none => none
        | none => none
      | none => none
    | false => none
  | .binOp op S x y _ => match rdC s x with
    | some (.v vx) => match rdC s y with
      | some (.v vy) => bcf P op S x y vx vy
      | _ => none
    | some (.agg [.v (.int .i64 a), .v (.int .i64 b)]) => match rdC s y with
      | some (.agg [.v (.int .i64 c),.v (.int .i64 e)]) => bdx P op S x y a b c e
      | _ => none
    | some (.ptr _ _) => ptV P op S x y
    | some (.agg cs) => match rdC s y with
      | some (.agg cs') => bc1 P op S x y cs cs'
      | _ => none
    | _ => none
  | .unOp .neg _ x => match rdC s x with
    | some (.v (.int k n)) => wI (k.wrap (0 - n)) fun z => some ⟨.v (.int k z),aah x,[]⟩
    | _ => none
  | .convert S T x => match rdC s x with
    | some (.v (.int _ n)) => match agi P S with
      | some _ => match agi P T with
        | some ti => match ti.k with
          | .int k' => wI (k'.wrap n) fun z => some ⟨.v (.int k' z),aah x,[]⟩
          | _ => none
        | none => none
      | none => none
    | _ => none
  | .indexAddr T x ix => match rdC s ix with
    | some (.v (.int _ (.ofNat i))) => match rdC s x with
      | some (.lst sz es) => match a6x P T sz with
        | true => match es[i]? with
          | some e => some ⟨.iptr e.cells,aah x ++ aah ix,[]⟩
          | none => none
        | false => none
      | some (.ms k sz off len) => match a6x P T sz && Nat.blt i len with
        | true => wN (off + i) fun n => some ⟨.eptr k sz n 0,aah x ++ aah ix,[]⟩
        | false => none
      | _ => none
    | _ => none
  | .load T x => match rdC s x with
    | some (.eptr k sz i off) => match s.blk k with
      | some (.row sz' es) => match Nat.beq sz sz' with
        | true => match es[i]? with
          | some e => match agi P T with
            | some ti => match Nat.ble (off + ti.size) e.cells.length with
              | true => match ldE ti (e.cells.drop off) with
                | some v => some ⟨v,aah x,[k]⟩
                | none => none
              | false => none
            | none => none
          | none => none
        | false => none
      | _ => none
    | some y => match agi P T with
      | some ti => match av4 P s ti x [] y with
        | some r => some ⟨r.x,r.rt,r.rd⟩
        | none => none
      | none => none
    | none => none
  | .index T x ix => match rdC s ix with
    | some (.v (.int _ (.ofNat i))) => match rdC s x with
      | some (.v (.string b)) => match agi P T with
        | some ti => match ti.k with
          | .string => match Nat.blt i b.size with
            | true => wN (b.data.getD i 0).toNat fun n => some ⟨.v (.int .u8 (Int.ofNat n)),aah x ++ aah ix,[]⟩
            | false => none
          | _ => none
        | none => none
      | _ => none
    | _ => none
  | .slice T x lo hi none => match rdC s x with
    | some (.lst sz es) => match bdC s lo 0 with
      | some l => match bdC s hi es.length with
        | some h => match a6x P T sz && Nat.ble l h && Nat.ble h es.length with
          | true => match frc ((es.drop l).take (h - l)) with
            | some r => some ⟨.lst sz r,aah x ++ (rtO lo ++ rtO hi),[]⟩
            | none => none
          | false => none
        | none => none
      | none => none
    | some (.v (.slice none 0 0)) => match bdC s lo 0 with
      | some 0 => match bdC s hi 0 with
        | some 0 => match agi P T with
          | some ti => match ti.k with
            | .slice E => match agi P E with
              | some _ => some ⟨.v (.slice none 0 0),aah x ++ (rtO lo ++ rtO hi),[]⟩
              | none => none
            | _ => none
          | none => none
        | _ => none
      | _ => none
    | some (.ms k sz off len) => match bdC s lo 0 with
      | some l => match bdC s hi len with
        | some h => match a6x P T sz && Nat.ble l h && Nat.ble h len with
          | true => wN (off + l) fun a => wN (h - l) fun b => some ⟨.ms k sz a b,aah x ++ (rtO lo ++ rtO hi),[]⟩
          | false => none
        | none => none
      | none => none
    | _ => none
  | .call ⟨.builtin .len, args, ts⟩ => match args.toList with
    | [x] => match ts.toList with
      | [T] => match rdC s x with
        | some (.lst _ es) => match agi P T with
          | some ti => match ti.k with
            | .slice _ => wN es.length fun n => some ⟨.v (.int .i64 (Int.ofNat n)),aah x,[]⟩
            | _ => none
          | none => none
        | some y => match a8d P x T [] y with
          | some r => some ⟨r.x,r.rt,r.rd⟩
          | none => none
        | none => none
      | _ => none
    | _ => none
  | .call ⟨.builtin .max, args, ts⟩ => match args.toList with
    | [x, y] => match rdC s x with
      | some (.v (.int .i64 a)) => match rdC s y with
        | some (.v (.int .i64 b)) => wI (if b > a then b else a) fun z => some ⟨.v (.int .i64 z),aah x ++ aah y,[]⟩
        | _ => none
      | _ => none
    | _ => none
  | op => match a1c P false True s op with
    | some r => match r.ob with
      | [] => some ⟨r.x,r.rt,r.rd⟩
      | _ => none
    | none => none
omit [Inhabited (Tys P)] in
theorem a9a {N d : Nat} {s : AS} {R : Array Oper} {x y : Operand} {a b : Int} {t : TypeId} {ts : Array TypeId} {pos : String} {after : Array Edge} (hx : Ev s x (.v (.int .i64 a))) (hy : Ev s y (.v (.int .i64 b))) (hN : Nat.blt d N = true) :
  Step P N R s ⟨some d,.call ⟨.builtin .max,#[x,y],ts⟩,t,pos,after,none⟩ ⟨some (.v (.int .i64 (if b > a then b else a))),[],aah x ++ aah y,[]⟩ :=
 aan rfl rfl hN fun s' hag C m ac w hr => ⟨.int .i64 (if b > a then b else a), by
  have h := (hx.agree hag (fun _ h => List.mem_append.2 (.inl h))).rep hr
  have h' := (hy.agree hag (fun _ h => List.mem_append.2 (.inr h))).rep hr
  generalize hu : ac.eval x = u at h
  generalize hv : ac.eval y = v at h'
  cases h; cases h'
  simp [execOp,resolve,hu,hv,invoke,builtin,Builtin.max_,Builtin.max2],.v _⟩
section
variable {s : AS} {R : Array Oper} {d : Nat} {t T : TypeId} {pos : String} {after : Array Edge}
theorem a5s {op : BinOp} {x y : Operand} {vx vy : Value} {S : TypeId} {r : V1} (hx : Ev s x (.v vx)) (hy : Ev s y (.v vy)) (h : bcf P op S x y vx vy = some r) (hN : Nat.blt d N = true) :
  Step P N R s ⟨some d,.binOp op S x y T,t,pos,after,none⟩ ⟨some r.x,[],r.rt,r.rd⟩ := by
 unfold bcf at h
 split at h
 ·split at h
  ·exact a5m hx hy h hN
  ·cases h
 ·split at h
  ·split at h
   ·rename_i c
    have hc : c = .nilIface:=by cases hy; rfl
    subst hc
    split at h
    ·rename_i he
     split at h
     ·rename_i ti hti
      split at h
      ·rename_i hk
       split at h
       ·cases h; exact aym hx (aq1 he) (aas hti) hk hN
       ·cases h; exact ayu hx (aq1 he) (aas hti) hk hN
       ·cases h
      ·cases h
     ·cases h
    ·cases h
   ·cases h
  ·split at h
   ·split at h
    ·have h9 := aus (P := P) (R := R) (S := S) (T := T) (t := t) (pos := pos) (after := after) hx hy hN
     rw [ath] at h9
     split at h
     ·rename_i hb; rw [hb] at h9; cases h; exact h9
     ·rename_i hb; rw [hb] at h9; cases h; exact h9
    ·have h9 := ayz (P := P) (R := R) (S := S) (T := T) (t := t) (pos := pos) (after := after) hx hy hN
     rw [ath] at h9
     split at h
     ·rename_i hb; rw [hb] at h9; cases h; exact h9
     ·rename_i hb; rw [hb] at h9; cases h; exact h9
    ·cases h
   ·cases h
  ·split at h
   ·rename_i r' h1
    split at h
    ·rename_i ho; cases h; exact a0l hx hy h1 (by rw [ho]; exact .nil) hN
    ·cases h
   ·cases h
theorem ax3 {op : Op} {r : V1} (h : opV P s op = some r) (hN : Nat.blt d N = true) : Step P N R s ⟨some d, op, t, pos, after, none⟩ ⟨some r.x, [], r.rt, r.rd⟩ := by
 unfold opV at h
 split at h
 ·split at h
  ·rename_i hc
   split at h
   ·split at h
    ·rename_i z hz; cases h
     exact ay4 (bz := z) (aa3 hc) (fun _ => aa3 hz) (fun e => by cases e) hN
    ·cases h
   ·split at h
    ·rename_i z hz; cases h
     exact ay4 (bx := z) (aa3 hc) (fun e => by cases e) (fun _ => aa3 hz) hN
    ·cases h
  ·cases h
 ·rename_i op S x T
  split at h
  ·rename_i hop
   have hop : op = .eql \/ op = .neq:=by cases op <;> first | exact .inl rfl | exact .inr rfl | cases hop
   split at h
   ·rename_i xv hx
    split at h
    ·rename_i b hv
     split at h
     ·rename_i ti hti
      split at h
      ·rename_i hk
       have h9 := a62 (P := P) (R := R) (T := T) (t := t) (pos := pos) (after := after) hop (aa3 hx) hv (aas hti) hk hN
       rcases hop with rfl | rfl
       ·cases h; exact h9
       ·cases b <;> (cases h; exact h9)
      ·cases h
     ·cases h
    ·cases h
   ·cases h
  ·cases h
 ·rename_i T hne
  split at h
  ·rename_i hx
   split at h
   ·rename_i hy; exact a5s (aa3 hx) (aa3 hy) h hN
   ·cases h
  ·rename_i hx
   split at h
   ·rename_i hy
    unfold bdx at h
    split at h
    ·split at h
     ·rename_i he
      have h9 := bdi (P := P) (R := R) (T := T) (t := t) (pos := pos) (after := after) (aa3 hx) (aa3 hy) he hN
      split at h
      ·rename_i hb; rw [hb] at h9; cases h; exact h9
      ·rename_i hb; rw [hb] at h9; cases h; exact h9
     ·cases h
    ·cases h
   ·cases h
  ·rename_i hx; exact baq h (aa3 hx) hN
  ·rename_i hx
   split at h
   ·rename_i hy; exact a6l h (aa3 hx) (aa3 hy) hN
   ·cases h
  ·cases h
 ·split at h
  ·rename_i hx; rw [apa] at h; cases h; exact a3m (aa3 hx) hN
  ·cases h
 ·split at h
  ·rename_i hx
   split at h
   ·rename_i hS
    split at h
    ·rename_i hT
     split at h
     ·rename_i hk; rw [apa] at h; cases h; exact a9n (aa3 hx) hN (aas hS) (aas hT) hk
     ·cases h
    ·cases h
   ·cases h
  ·cases h
 ·split at h
  ·rename_i i hi
   split at h
   ·rename_i hx
    split at h
    ·rename_i hs
     obtain ⟨ti,E,te,h1,h2,h3,h4⟩ := amj hs
     split at h
     ·rename_i e he; cases h
      exact avk (i := Int.ofNat i) (aa3 hx) (aa3 hi) h1 h2 h3 h4 (Int.natCast_nonneg _) he hN
     ·cases h
    ·cases h
   ·rename_i hx
    split at h
    ·rename_i hs
     simp only [and_eq_true,Nat.blt_eq] at hs
     obtain ⟨ti,E,te,h1,h2,h3,h4⟩ := amj hs.1
     rw [asl] at h; cases h
     exact a1b (i := Int.ofNat i) (aa3 hx) (aa3 hi) h1 h2 h3 h4 (Int.natCast_nonneg _) (Int.ofNat_lt.2 hs.2) hN
    ·cases h
   ·cases h
  ·cases h
 ·split at h
  ·rename_i hx
   split at h
   ·rename_i hk
    split at h
    ·rename_i hs
     split at h
     ·rename_i e he
      split at h
      ·rename_i ti hT
       split at h
       ·rename_i hle
        split at h
        ·rename_i v hv
         cases h
         cases eq_of_beq_eq_true hs
         obtain ⟨h1,rfl⟩ := a9r hv
         exact aar (aa3 hx) hk he (aas hT) hle h1 hN
        ·cases h
       ·cases h
      ·cases h
     ·cases h
    ·cases h
   ·cases h
  ·rename_i hx
   split at h
   ·rename_i ti hT
    split at h
    ·rename_i h1; cases h; exact avo (aa3 hx) (aas hT) h1 hN
    ·cases h
   ·cases h
  ·cases h
 ·split at h
  ·rename_i i hi
   split at h
   ·rename_i hx
    split at h
    ·rename_i ti hT
     split at h
     ·rename_i hk
      split at h
      ·rename_i hb
       rw [Nat.blt_eq] at hb
       rw [asl] at h; cases h
       exact aks (i := Int.ofNat i) (aa3 hx) (aa3 hi) (aas hT) hk (Int.natCast_nonneg _) (Int.ofNat_lt.2 hb) hN
      ·cases h
     ·cases h
    ·cases h
   ·cases h
  ·cases h
 ·split at h
  ·rename_i hx
   split at h
   ·rename_i l hl
    split at h
    ·rename_i hh hhi
     split at h
     ·rename_i hs
      simp only [and_eq_true,Nat.ble_eq] at hs
      obtain ⟨ti,E,te,h1,h2,h3,h4⟩ := amj hs.1.1
      split at h
      ·rename_i hr; cases h; cases ae3 hr
       exact aaj (aa3 hx) (anz hl) (anz hhi) h1 h2 h3 h4 hs.1.2 hs.2 hN
      ·cases h
     ·cases h
    ·cases h
   ·cases h
  ·rename_i hx
   split at h
   ·rename_i hl
    split at h
    ·rename_i hh
     split at h
     ·rename_i ti hT
      split at h
      ·rename_i E hk
       split at h
       ·rename_i te hE
        cases h
        exact avw (aa3 hx) (anz hl) (anz hh) (aas hT) hk (aas hE) hN
       ·cases h
      ·cases h
     ·cases h
    ·cases h
   ·cases h
  ·rename_i hx
   split at h
   ·rename_i l hl
    split at h
    ·rename_i hh hhi
     split at h
     ·rename_i hs
      simp only [and_eq_true,Nat.ble_eq] at hs
      obtain ⟨ti,E,te,h1,h2,h3,h4⟩ := amj hs.1.1
      rw [asl,asl] at h; cases h
      exact ago (aa3 hx) (anz hl) (anz hhi) h1 h2 h3 h4 hs.1.2 hs.2 hN
     ·cases h
    ·cases h
   ·cases h
  ·cases h
 ·rename_i args ts
  split at h
  ·rename_i x hx
   split at h
   ·rename_i T hT
    have e1 : args = #[x]:=by apply Array.toList_inj.1; simpa using hx
    have e2 : ts = #[T]:=by apply Array.toList_inj.1; simpa using hT
    subst e1; subst e2
    split at h
    ·rename_i h1
     split at h
     ·rename_i ti hti
      split at h
      ·rename_i hk; rw [asl] at h; cases h; exact akz (aa3 h1) (aas hti) hk hN
      ·cases h
     ·cases h
    ·rename_i h1
     split at h
     ·rename_i h2; cases h; exact az0 (aa3 h1) h2 hN
     ·cases h
    ·cases h
   ·cases h
  ·cases h
 ·rename_i args ts
  split at h
  ·rename_i x y hx
   split at h
   ·rename_i h1
    split at h
    ·rename_i h2
     have e1 : args = #[x,y]:=by apply Array.toList_inj.1; simpa using hx
     subst e1
     rw [apa] at h; cases h; exact a9a (aa3 h1) (aa3 h2) hN
    ·cases h
   ·cases h
  ·cases h
 ·split at h
  ·rename_i h1
   split at h
   ·rename_i ho; cases h; exact ak1 h1 (by rw [ho]; exact .nil) trivial hN
   ·cases h
  ·cases h
end
end Go.Lw
namespace Go.Lw
structure SameJ (l' l : Li) : Prop where
  j : l'.joints = l.joints
  d : l'.drivers = l.drivers
  b : l'.bodies.length = l.bodies.length
section
variable {l' l : Li} (h : SameJ l' l)
include h
theorem SameJ.jointI (kind body : Int) (oth : List Bool) : jointI l' kind body oth = jointI l kind body oth:=by unfold Lw.jointI; rw [h.j]
theorem SameJ.freeB (k : List Bool) (i : Int) : freeB l' k i = freeB l k i:=by unfold Lw.freeB aoh; rw [h.d]
theorem SameJ.drHit (k : List Bool) (i : Nat) : drHit l' k i = drHit l k i:=by unfold Lw.drHit; simp only [h.d,h.jointI]
theorem SameJ.driverG (k : List Bool) : driverG l' k = driverG l k:=by unfold Lw.driverG; simp only [h.d,h.jointI,h.drHit]
theorem SameJ.prHit (k : List Bool) (i j : Nat) : prHit l' k i j = prHit l k i j:=by unfold Lw.prHit; simp only [h.freeB,h.jointI,h.b]
theorem SameJ.prAt (k : List Bool) (i : Nat) : prAt l' k i = prAt l k i:=by unfold Lw.prAt; simp only [h.prHit,h.b]
theorem SameJ.prG (k : List Bool) (i j : Nat) : prG l' k i j = prG l k i j:=by unfold Lw.prG; simp only [h.jointI,h.b]
theorem SameJ.pairG (k : List Bool) : pairG l' k = pairG l k:=by unfold Lw.pairG; simp only [h.prAt,h.prG,h.b]
theorem SameJ.sgHit (k : List Bool) (i : Nat) : sgHit l' k i = sgHit l k i:=by unfold Lw.sgHit; simp only [h.freeB,h.jointI]
theorem SameJ.sgG (k : List Bool) (i : Nat) : sgG l' k i = sgG l k i:=by unfold Lw.sgG; simp only [h.jointI,h.j]
theorem SameJ.singleG (k : List Bool) : singleG l' k = singleG l k := by
 unfold Lw.singleG
 have e : Lw.sgG l' k = Lw.sgG l k := funext (h.sgG k)
 simp only [h.sgHit,h.b,e]
theorem SameJ.nextG (k : List Bool) : nextG l' k = nextG l k:=by unfold Lw.nextG; rw [h.driverG,h.pairG,h.singleG]
theorem SameJ.findFrom : ∀ (n : Nat) (k : List Bool) (out : List Gr), findFrom l' n k out = findFrom l n k out
 | 0,k,out => rfl
 | n + 1, k, out => by
  unfold Lw.findFrom
  rw [h.nextG]
  cases Lw.nextG l k with
  | none => rfl
  | some g => exact SameJ.findFrom n _ _
theorem SameJ.findG : findG l' = findG l:=by unfold Lw.findG; rw [h.b,h.findFrom]
theorem SameJ.splitE : splitE l' = splitE l:=by unfold Lw.splitE aew al8; rw [h.findG,h.b,h.j]
theorem SameJ.splitG : splitG l' = splitG l:=by unfold Lw.splitG; rw [h.splitE,h.findG]
end
end Go.Lw
namespace Go.Lw
def li0 : Li := ⟨⟨#[]⟩,[],[],[]⟩
theorem ba6 : li0.ok := ⟨by show 0 <= _; omega,fun b hb => (by cases hb),fun b hb => (by cases hb),fun b hb => (by cases hb),by show 0 <= _; omega,by show 0 <= _; omega,by show 0 <= _; omega⟩
def Jt.vs (j : Jt) : List Value := [.string j.name,.int .i64 j.kind,.int .i64 j.a,.int .i64 j.point,.int .i64 j.b,.int .i64 j.on,.int .i64 j.to]
def Dr.vs (d : Dr) : List Value := [.string d.name,.int .i64 d.body]
end Go.Lw
namespace Go.Lw
open Go.Proofs
end Go.Lw
namespace Go.Lw
open Go.Proofs
theorem ai9 (a : List Nat) (ha : a.length <= 281474976710656) : FnC prog 303 [ws a, ws a] (bl true) := by
 refine gF0 func303 ?_
 refine gl ?_
 refine gl ?_
 refine gC (fun ht10 => ?_) (fun ht10 => ?_) (st1 := (2,0))
 ·exact absurd ht10 (by simp [aab])
 ·refine gL1 [0, 1] [] (fun (i : Nat) => [(5, some (i64 i))]) (fun _ => []) (fun i => i <= a.length) (fun i => a.length - i) 0 (zero_le _) ?_
  rintro i hi K1 hK1
  refine gl ?_
  refine gC (fun ht14 => ?_) (fun ht14 => ?_)
  ·have hin := ac3 ht14
   obtain ⟨x,hx⟩ := aeg hin
   refine gi (aaq hx) ?_
   refine gi (aaq hx) ?_
   refine gD ?_
   refine gC (fun ht25 => ?_) (fun ht25 => ?_) (st1 := (7,0))
   ·exact absurd ht25 (by simp [aab])
   ·refine ga abn ?_
    exact gK1 hK1 (i + 1) hin
  ·refine gE1 ?_
   rfl
theorem al0 (x : Rt) (hx : x.ok) : FnC prog 202 [x.av, x.av] (bl true) := by
 have h1 : x.num.length <= 281474976710656:=by have := hx.2.2.1; unfold lim at this; omega
 have h2 : x.den.length <= 281474976710656:=by have := hx.2.2.2; unfold lim at this; omega
 refine gF0 func202 ?_
 refine gcG (fun _ => (ai9 x.num h1)) ?_
 refine gcG (fun h => (ai9 x.den h2)) ?_
 refine gE1 ?_
 simp; rfl
theorem ari (b : Bd) (hb : b.ok) : FnC prog 103 [b.av, b.av] (bl true) := by
 have hbl := hb.ll
 refine gF0 func103 ?_
 refine glG ?_
 refine glG ?_
 refine gC (fun ht21 => ?_) (fun ht21 => ?_) (st1 := (2,0))
 ·exact absurd ht21 (by simp [aab])
 ·refine gL1 [2, 3] [2, 3] (fun (i : Nat) => [(5, some (i64 i))]) (fun _ => []) (fun i => i <= b.pts.length) (fun i => b.pts.length - i) 0 (zero_le _) ?_
  rintro i hi K1 hK1
  refine gl ?_
  refine gC (fun ht26 => ?_) (fun ht26 => ?_)
  ·have hin := ac3 ht26
   obtain ⟨m,hm⟩ := aeg hin
   have hmo := hb.pts m (mem_of_getElem? hm)
   refine gi (aaq hm) ?_
   refine gi (aaq hm) ?_
   refine gD ?_
   refine gcG (fun _ => (al0 m.x hmo.x)) ?_
   refine gcG (fun _ => (al0 m.y hmo.y)) ?_
   refine gC (fun ht59 => ?_) (fun ht59 => ?_) (st1 := (8,0))
   ·exact absurd ht59 (by simp)
   ·refine ga abn ?_
    exact gK1 hK1 (i + 1) hin
  ·refine gE1 ?_
   rfl
theorem alv (l l2 : Li) (hl : l.ok) (e : l = l2) : FnC prog 28 [l.av, l2.av] (bl true) := by
 have hlb := hl.lb
 have hlj := hl.lj
 have hld := hl.ld
 refine gF0 func28 ?_
 refine glG ?_
 refine glG ?_
 refine glG ?_
 refine glG ?_
 refine glG ?_
 refine glG ?_
 refine gC (fun ht39 => ?_) (fun ht39 => ?_) (st1 := (2,0))
 ·exact absurd ht39 (by subst e; simp [aab])
 ·subst e
  refine gL1 [2,3] [2,3] (fun (i : Nat) => [(5,some (i64 i))]) (fun _ => []) (fun i => i <= l.bodies.length) (fun i => l.bodies.length - i) 0 (zero_le _) ?_
  rintro i hi K1 hK1
  refine gl ?_
  refine gC (fun ht44 => ?_) (fun ht44 => ?_)
  ·have hin := ac3 ht44
   obtain ⟨b,hb⟩ := aeg hin
   refine gi (aaq hb) ?_
   refine gi (aaq hb) ?_
   refine gc (ari b (hl.bodies b (mem_of_getElem? hb))) ?_
   refine gD ?_
   refine gC (fun ht58 => ?_) (fun ht58 => ?_) (st1 := (7,0))
   ·cases ht58
   ·refine ga abn ?_
    exact gK1 hK1 (i + 1) hin
  ·refine gL1 [2, 3] [2, 3] (fun (i : Nat) => [(6, some (i64 i))]) (fun _ => []) (fun i => i <= l.joints.length) (fun i => l.joints.length - i) 0 (zero_le _) ?_
   rintro i hk K2 hK2
   refine gl ?_
   refine gC (fun ht63 => ?_) (fun ht63 => ?_)
   ·have hkn := ac3 ht63
    obtain ⟨j,hj⟩ := aeg hkn
    refine gi (aaq hj) ?_
    refine gi (aaq hj) ?_
    refine gs (azz (cs := j.vs) (ks := [2,1,1,1,1,1,1]) (.tmp rfl) (.tmp rfl) rfl (by kernel_rfl) rfl) ?_
    refine gD ?_
    refine gC (fun ht76 => ?_) (fun ht76 => ?_) (st1 := (12,0))
    ·cases ht76
    ·refine ga abn ?_
     exact gK1 hK2 (i + 1) hkn
   ·refine gL1 [2, 3] [2, 3] (fun (i : Nat) => [(7, some (i64 i))]) (fun _ => []) (fun i => i <= l.drivers.length) (fun i => l.drivers.length - i) 0 (zero_le _) ?_
    rintro i hq K3 hK3
    refine gl ?_
    refine gC (fun ht81 => ?_) (fun ht81 => ?_)
    ·have hqn := ac3 ht81
     obtain ⟨d,hd⟩ := aeg hqn
     refine gi (aaq hd) ?_
     refine gi (aaq hd) ?_
     refine gs (azz (cs := d.vs) (ks := [2,1]) (.tmp rfl) (.tmp rfl) rfl (by kernel_rfl) rfl) ?_
     refine gD ?_
     refine gC (fun ht94 => ?_) (fun ht94 => ?_) (st1 := (17,0))
     ·cases ht94
     ·refine ga abn ?_
      exact gK1 hK3 (i + 1) hqn
    ·refine gE1 ?_
     rfl
theorem amz (l : Li) (hl : l.ok) : FnC prog 28 [l.av,l.av] (bl true) := alv l l hl rfl
end Go.Lw
namespace Go.Lw
open Go.Proofs
end Go.Lw
namespace Go.Lw
open Go.Proofs
end Go.Lw
namespace Go.Lw
open Go.Proofs
end Go.Lw
namespace Go.Lw
open Go.Proofs
theorem ak0 {α : Type} {f : α -> List Int} : ∀ (gs : List α) (k : List Bool), (gs.foldl (fun k g => aa5 k (f g)) k).length = k.length
 | [],k => rfl
 | g :: gs,k => by rw [List.foldl_cons,ak0 gs,ad3]
end Go.Lw
namespace Go.Lw
open Go.Proofs
def aw6 (r : Rt) : Bool := !(cond (cond (cond (aab .gtr (r.num.length : Int) 1) true (aab .gtr (r.den.length : Int) 1)) true (cond (aab .eql (r.num.length : Int) 1) (aab .gtr (aaa r.num 0 : Int) 400) false)) true
  (cond (aab .eql (r.den.length : Int) 1) (aab .gtr (aaa r.den 0 : Int) 20) false))
theorem ap8 (rs : List Rt) (hl : rs.length <= 1000) : FnC prog 92 [.lst 3 (rs.map Rt.av)] (bl (rs.all aw6)) := by
 refine gF0 func92 ?_
 refine gl ?_
 refine gL1 [5,6] [] (fun (i : Nat) => [(7,some (i64 i))]) (fun _ => []) (fun i => i <= rs.length /\ (rs.take i).all aw6 = true) (fun i => rs.length - i) 0 ⟨zero_le _,rfl⟩ ?_
 rintro i ⟨hi,hj⟩ K1 hK1
 refine gC (fun ht8 => ?_) (fun ht8 => ?_)
 ·have hin := ac3 ht8
  obtain ⟨r,hr⟩ := aeg hin
  refine gi (aaq hr) ?_
  refine gl ?_
  refine glG ?_
  refine glG ?_
  refine giG (fun ⟨h,h2⟩ => (afc (by have := akp h2; have e : Int.toNat 0 = 0 := rfl; omega))) ?_
  refine glG ?_
  refine giG (fun ⟨h,h2⟩ => (afc (by have := akp h2; have e : Int.toNat 0 = 0 := rfl; omega))) ?_
  refine gC (fun ht46 => ?_) (fun ht46 => ?_)
  ·have h1 : aw6 r = false := congrArg Bool.not ht46
   refine gE1 ?_
   rw [aik hr h1]; rfl
  ·have h1 : aw6 r = true := congrArg Bool.not ht46
   refine ga abn ?_
   exact gK1 hK1 (i + 1) ⟨hin,ak3 hj hr h1⟩
 ·have hin := abo hi ht8
  refine gE1 ?_
  rw [ao1 hin hj]; rfl
end Go.Lw
namespace Go.Lw
open Go.Proofs
section
variable {P : Program} {N : Nat} {s : AS} {R : Array Oper}
theorem ai5 {d : Nat} {x : Operand} {S T t : TypeId} {pos : String} {after : Array Edge} (hx : Ev s x (.v (.pointer none))) (hS : a7r P S = true) (hN : Nat.blt d N = true) :
  Step P N R s ⟨some d,.binOp .eql S x (.const (.pointer none)) T,t,pos,after,none⟩ ⟨some (.v (.bool true)),[],aah x,[]⟩ :=
 aan rfl rfl hN fun s' hag C m a w hr => ⟨.bool true, by
  have h := (hx.agree hag (fun _ h => h)).rep hr
  have h2 : a.eval (.const (.pointer none)) = .pointer none := rfl
  have hu := au0 hS
  generalize ha : a.eval x = u at h
  cases h
  simp [execOp,ha,h2,eqGuard,run_eql_pointer_nil w S _ hu],.v _⟩
theorem a6h {d : Nat} {x : Operand} {S T t : TypeId} {pos : String} {after : Array Edge} (hx : Ev s x (.v (.pointer none))) (hS : a7r P S = true) (hN : Nat.blt d N = true) :
  Step P N R s ⟨some d,.binOp .neq S x (.const (.pointer none)) T,t,pos,after,none⟩ ⟨some (.v (.bool false)),[],aah x,[]⟩ :=
 aan rfl rfl hN fun s' hag C m a w hr => ⟨.bool false, by
  have h := (hx.agree hag (fun _ h => h)).rep hr
  have h2 : a.eval (.const (.pointer none)) = .pointer none := rfl
  have hu := au0 hS
  generalize ha : a.eval x = u at h
  cases h
  simp [execOp,ha,h2,eqGuard,run_neq_pointer_nil w S _ hu],.v _⟩
theorem bcw {d : Nat} {x : Operand} {cs : List AV} {S T t : TypeId} {pos : String} {after : Array Edge} (hx : Ev s x (.iptr cs)) (hS : a7r P S = true) (hN : Nat.blt d N = true) :
  Step P N R s ⟨some d,.binOp .eql S x (.const (.pointer none)) T,t,pos,after,none⟩ ⟨some (.v (.bool false)),[],aah x,[]⟩ :=
 aan rfl rfl hN fun s' hag C m a w hr => ⟨.bool false, by
  have h := (hx.agree hag (fun _ h => h)).rep hr
  have h2 : a.eval (.const (.pointer none)) = .pointer none := rfl
  have hu := au0 hS
  generalize ha : a.eval x = u at h
  cases h
  simp [execOp,ha,h2,eqGuard,run_eql_pointer_nil w S _ hu],.v _⟩
end
theorem bbx {α : Type} {x : α} {i : Nat} (h : i = 0) : [x][i]? = some x:=by subst h; rfl
def smB (b : Bd) : Bool := decide (b.pts.length <= 10) && b.pts.all fun m => [m.x,m.y].all aw6
def smL (l : Li) : Bool := decide (l.bodies.length <= 6 /\ l.joints.length <= 8 /\ l.drivers.length <= 4) && l.bodies.all smB
def smT (xs : List Tn) : Bool := decide (xs.length <= 4) && xs.all fun x => [x.t].all aw6
theorem bec {a b c : Nat} (h : cond (cond (aab .gtr (a : Int) 6) true (aab .gtr (b : Int) 8)) true (aab .gtr (c : Int) 4) = true) : ¬ (a <= 6 /\ b <= 8 /\ c <= 4) := by
 rintro ⟨h1,h2,h3⟩
 have e1 : aab .gtr (a : Int) 6 = false:=by simp [aab]; omega
 have e2 : aab .gtr (b : Int) 8 = false:=by simp [aab]; omega
 have e3 : aab .gtr (c : Int) 4 = false:=by simp [aab]; omega
 rw [e1,e2,e3] at h
 cases h
theorem beb {a b c : Nat} (h : cond (cond (aab .gtr (a : Int) 6) true (aab .gtr (b : Int) 8)) true (aab .gtr (c : Int) 4) = false) : a <= 6 /\ b <= 8 /\ c <= 4 := by
 cases h1 : aab .gtr (a : Int) 6
 ·rw [h1] at h
  cases h2 : aab .gtr (b : Int) 8
  ·rw [h2] at h
   exact ⟨aob (b := 6) h1,aob (b := 8) h2,aob (b := 4) h⟩
  ·rw [h2] at h; cases h
 ·rw [h1] at h; cases h
theorem alb (e : Nat) (n : Int) : FnC prog 24 [ahg e, i64 n] (bl (aab .eql (e : Int) n)) := by
 refine gF0 func24 ?_
 refine gc (awv e) ?_
 refine gE1 ?_
 rfl
theorem atk (xs : List AV) : FnC prog 23 [.v (.pointer none), .lst 4 xs] (.tup [.v (.slice none 0 0), ahg 1]) := by
 refine gF0 func23 ?_
 refine gs (ai5 (.tmp rfl) (by kernel_rfl) rfl) ?_
 refine gC (fun ht11 => ?_) (fun ht11 => ?_) (st2 := (77777,0))
 ·refine gE2 ?_
  rfl
 ·cases ht11
theorem asu (l : Li) : FnC prog 25 [.v (.pointer none), l.av] (ahg 1) := by
 refine gF0 func25 ?_
 refine gs (ai5 (.tmp rfl) (by kernel_rfl) rfl) ?_
 refine gC (fun ht7 => ?_) (fun ht7 => ?_) (st2 := (77777,0))
 ·refine gE1 ?_
  rfl
 ·cases ht7
theorem ap5 : FnC prog 26 [.v (.pointer none)] (i64 0) := by
 refine gF0 func26 ?_
 refine gs (ai5 (.tmp rfl) (by kernel_rfl) rfl) ?_
 refine gC (fun ht4 => ?_) (fun ht4 => ?_) (st2 := (77777,0))
 ·refine gE1 ?_
  rfl
 ·cases ht4
theorem aqb : FnC prog 27 [.v (.pointer none)] (i64 0) := by
 refine gF0 func27 ?_
 refine gs (ai5 (.tmp rfl) (by kernel_rfl) rfl) ?_
 refine gC (fun ht4 => ?_) (fun ht4 => ?_) (st2 := (77777,0))
 ·refine gE1 ?_
  rfl
 ·cases ht4
theorem ar5 : FnC prog 29 [.v (.pointer none)] (.agg [.v (.string ⟨#[]⟩), .v (.slice none 0 0), .v (.slice none 0 0), .v (.slice none 0 0)]) := by
 refine gF0 func29 ?_
 refine gs (ai5 (.tmp rfl) (by kernel_rfl) rfl) ?_
 refine gC (fun ht4 => ?_) (fun ht4 => ?_) (st2 := (77777,0))
 ·refine gE1 ?_
  rfl
 ·cases ht4
theorem an9 : FnC prog 30 [.v (.pointer none)] (.tup []) := by
 refine gF0 func30 ?_
 refine gs (a6h (.tmp rfl) (by kernel_rfl) rfl) ?_
 refine gC (fun ht3 => ?_) (fun ht3 => ?_) (st1 := (1,0))
 ·cases ht3
 ·refine gE ?_
  rfl
theorem av5 : FnC prog 31 [] (.iptr [bl false, .v (.string ⟨#[]⟩), .v (.slice none 0 0), .v (.slice none 0 0), .v (.slice none 0 0), .v (.slice none 0 0), i64 0]) := by
 refine gF0 func31 ?_ (77777,0)
 refine gW ((Wk.freezeB (k := 2) rfl rfl).trans <| Wk.o (sl := [(0,some (.iptr [bl false,.v (.string ⟨#[]⟩),.v (.slice none 0 0),.v (.slice none 0 0),.v (.slice none 0 0),.v (.slice none 0 0),i64 0]))]) (hp := [])) ?_
 refine gE1 ?_
 rfl
theorem asq (xs : List AV) : FnC prog 23 [.iptr [bl false, .v (.string ⟨#[]⟩), .v (.slice none 0 0), .v (.slice none 0 0), .v (.slice none 0 0), .v (.slice none 0 0), i64 0], .lst 4 xs] (.tup [.v (.slice none 0 0), ahg 11]) := by
 refine gF0 func23 ?_
 refine gs (bcw (.tmp rfl) (by kernel_rfl) rfl) ?_
 refine gC (fun ht11 => ?_) (fun ht11 => ?_) (st1 := (2,0))
 ·cases ht11
 ·refine gC (fun ht17 => ?_) (fun ht17 => ?_) (st2 := (77777, 0))
  ·refine gE2 ?_
   rfl
  ·cases ht17
theorem ati (l : Li) (hw : l.okw) (xs : List Tn) (hxl : xs.length <= 281474976710656) :
  FnC prog 22 [.lst 4 [l.av],.lst 3 [.agg [i64 0,i64 0,.lst 4 (xs.map Tn.av)]]] (bl (!(smL l && smT xs))) := by
 refine gF0 func22 ?_
 refine ge rfl ?_
 refine geG (fun _ => rfl) ?_
 refine gC (fun ht19 => ?_) (fun ht19 => ?_) (st1 := (2,0))
 ·cases ht19
 ·refine gL1 [0, 1] [] (fun (i : Nat) => [(5, some (i64 i))]) (fun _ => []) (fun i => i <= 1 /\ (0 < i -> smL l = true)) (fun i => 1 - i) 0 ⟨zero_le _, fun h => absurd h (by omega)⟩ ?_
  rintro i ⟨hi,hj⟩ K1 hK1
  refine ge rfl ?_
  refine gC (fun ht23 => ?_) (fun ht23 => ?_)
  ·have hin : i < 1 := ac3 ht23
   have hi0 : i = 0:=by omega
   refine gi (bbx hi0) ?_
   refine gl ?_
   refine glG ?_
   refine glG ?_
   refine gC (fun ht45 => ?_) (fun ht45 => ?_)
   ·have h1 : smL l = false := by unfold smL; rw [decide_eq_false (bec ht45)]; rfl
    refine gE1 ?_
    rw [h1]; rfl
   ·have h1 := beb ht45
    refine gL1 [0,1,5,6] [6] (fun (k : Nat) => [(7,some (i64 k))]) (fun _ => []) (fun k => k <= l.bodies.length /\ (l.bodies.take k).all smB = true) (fun k => l.bodies.length - k) 0 ⟨zero_le _,rfl⟩ ?_
    rintro k ⟨hk,hkj⟩ K2 hK2
    refine gl ?_
    refine gC (fun ht50 => ?_) (fun ht50 => ?_)
    ·have hkn := ac3 ht50
     obtain ⟨b,hb⟩ := aeg hkn
     refine gi (aaq hb) ?_
     refine gl ?_
     refine gC (fun ht60 => ?_) (fun ht60 => ?_)
     ·have h2 : smB b = false := by
       unfold smB
       rw [decide_eq_false (by have : 10 < b.pts.length := av7 ht60; omega)]; rfl
      refine gE1 ?_
      rw [show smL l = false by unfold smL; rw [aik hb h2,Bool.and_false]]; rfl
     ·have h2 : b.pts.length <= 10 := aob (b := 10) ht60
      refine gL1 [0,1,5,6,7] [6] (fun (m : Nat) => [(8,some (i64 m))]) (fun _ => []) (fun m => m <= b.pts.length /\ (b.pts.take m).all (fun m => [m.x,m.y].all aw6) = true) (fun m => b.pts.length - m) 0 ⟨zero_le _,rfl⟩ ?_
      rintro m ⟨hm,hmj⟩ K3 hK3
      refine gi (aaq hb) ?_
      refine gl ?_
      refine gC (fun ht69 => ?_) (fun ht69 => ?_)
      ·have hmn := ac3 ht69
       obtain ⟨p,hp⟩ := aeg hmn
       refine gi (aaq hb) ?_
       refine gi (aaq hp) ?_
       refine gc (ap8 [p.x,p.y] (by show 2 <= 1000; omega)) ?_
       refine gC (fun ht87 => ?_) (fun ht87 => ?_)
       ·have h3 : [p.x, p.y].all aw6 = false := akq ht87
        have h4 : smB b = false:=by unfold smB; rw [aik hp h3,Bool.and_false]
        refine gE1 ?_
        rw [show smL l = false by unfold smL; rw [aik hb h4,Bool.and_false]]; rfl
       ·have h3 : [p.x, p.y].all aw6 = true := akj ht87
        refine ga abn ?_
        exact gK1 hK3 (m + 1) ⟨hmn,ak3 hmj hp h3⟩
      ·have h3 : smB b = true := by unfold smB; rw [decide_eq_true h2, ao1 (abo hm ht69) hmj]; rfl
       refine ga abn ?_
       exact gK1 hK2 (k + 1) ⟨hkn,ak3 hkj hb h3⟩
    ·have h2 : smL l = true := by unfold smL; rw [decide_eq_true h1, ao1 (abo hk ht50) hkj]; rfl
     refine ga abn ?_
     exact gK1 hK1 (i + 1) ⟨hin,fun _ => h2⟩
  ·have hL : smL l = true := hj (by have := abo hi ht23; omega)
   refine gL1 [1] [] (fun (i : Nat) => [(10,some (i64 i))]) (fun _ => []) (fun i => i <= 1 /\ (0 < i -> smT xs = true)) (fun i => 1 - i) 0 ⟨zero_le _,fun h => absurd h (by omega)⟩ ?_
   rintro i ⟨hi6,hj6⟩ K4 hK4
   refine ge rfl ?_
   refine gC (fun ht91 => ?_) (fun ht91 => ?_)
   ·have hin : i < 1 := ac3 ht91
    have hi0 : i = 0:=by omega
    refine gi (bbx hi0) ?_
    refine gl ?_
    refine gC (fun ht100 => ?_) (fun ht100 => ?_)
    ·have h1 : smT xs = false := by
      unfold smT
      rw [decide_eq_false (by have : 4 < xs.length := av7 ht100; omega)]; rfl
     refine gE1 ?_
     rw [h1,Bool.and_false]; rfl
    ·have h1 : xs.length <= 4 := aob (b := 4) ht100
     refine gL1 [1,10] [] (fun (k : Nat) => [(11,some (i64 k))]) (fun _ => []) (fun k => k <= xs.length /\ (xs.take k).all (fun x => [x.t].all aw6) = true) (fun k => xs.length - k) 0 ⟨zero_le _,rfl⟩ ?_
     rintro k ⟨hk,hkj⟩ K5 hK5
     refine gi (bbx hi0) ?_
     refine gl ?_
     refine gC (fun ht108 => ?_) (fun ht108 => ?_)
     ·have hkn := ac3 ht108
      obtain ⟨x,hx⟩ := aeg hkn
      refine gi (bbx hi0) ?_
      refine gi (aaq hx) ?_
      refine gc (ap8 [x.t] (by show 1 <= 1000; omega)) ?_
      refine gC (fun ht122 => ?_) (fun ht122 => ?_)
      ·have h3 : [x.t].all aw6 = false := akq ht122
       refine gE1 ?_
       rw [show smT xs = false by unfold smT; rw [aik hx h3,Bool.and_false],Bool.and_false]; rfl
      ·have h3 : [x.t].all aw6 = true := akj ht122
       refine ga abn ?_
       exact gK1 hK5 (k + 1) ⟨hkn,ak3 hkj hx h3⟩
     ·have h3 : smT xs = true := by unfold smT; rw [decide_eq_true h1, ao1 (abo hk ht108) hkj]; rfl
      refine ga abn ?_
      exact gK1 hK4 (i + 1) ⟨hin,fun _ => h3⟩
   ·have hT : smT xs = true := hj6 (by have := abo hi6 ht91; omega)
    refine gE1 ?_
    rw [hL,hT]; rfl
end Go.Lw
namespace Go.Lw
variable {P : Program} {N : Nat}
def tr (a b k : Nat) : Nat := match Nat.beq k a with
  | true => b
  | false => match Nat.beq k b with
    | true => a
    | false => k
theorem bcq (a b k : Nat) : tr a b k = if k = a then b else if k = b then a else k := by
 unfold tr
 split
 ·rename_i h; rw [if_pos (eq_of_beq_eq_true h)]
 ·rename_i h; rw [if_neg (Nat.ne_of_beq_eq_false h)]
  split
  ·rename_i h; rw [if_pos (eq_of_beq_eq_true h)]
  ·rename_i h; rw [if_neg (Nat.ne_of_beq_eq_false h)]
theorem a2s (a b k : Nat) : tr a b (tr a b k) = k := by
 simp only [bcq]
 by_cases h1 : k = a
 ·subst h1
  by_cases h2 : b = k
  ·simp [h2]
  ·simp [h2]
 ·by_cases h2 : k = b
  ·subst h2; simp [h1]
  ·simp [h1,h2]
theorem ayr {σ : Nat -> Nat} (hσ : ∀ k, σ (σ k) = k) : ∀ H : Hp, pmH σ (pmH σ H) = H
 | [] => rfl
 | (k, x) :: l => by
  simp only [pmH,hσ,ayr hσ l]
  cases x with
  | none => rfl
  | some x => simp only [Blk.pm_pm hσ]
def tA : List (Nat × Nat) -> List AV -> List AV
  | [],xs => xs
  | p :: L,xs => tA L (xs.map (AV.pm (tr p.1 p.2)))
def tH : List (Nat × Nat) -> Hp -> Hp
  | [],H => H
  | p :: L,H => tH L (pmH (tr p.1 p.2) H)
def rB : List (Nat × Nat) -> AV -> AV
  | [],r => r
  | p :: L,r => (rB L r).pm (tr p.1 p.2)
def hB : List (Nat × Nat) -> Hp -> Hp
  | [],H => H
  | p :: L,H => pmH (tr p.1 p.2) (hB L H)
theorem bdz {f : FuncId} : ∀ {L : List (Nat × Nat)} {xs : List AV} {H H' : Hp} {r : AV}, Con P f (tA L xs) (tH L H) r H' -> Con P f xs H (rB L r) (hB L H')
 | [],xs,H,H',r,h => h
 | p :: L, xs, H, H', r, h => by
  have h1 := (bdz (L := L) h).pm (a2s p.1 p.2)
  rw [ayr (a2s p.1 p.2),map_map] at h1
  have e : (AV.pm (tr p.1 p.2) ∘ AV.pm (tr p.1 p.2)) = id:=by funext x; exact AV.pm_pm (a2s p.1 p.2) x
  rw [e,List.map_id] at h1
  exact h1
def bdv : Nat -> List Nat -> List (Nat × Nat)
  | _,[] => []
  | b,k :: ks => (k,b) :: bdv (b + 1) ks
def awg (k : Nat) : List Nat -> Bool
  | [] => false
  | x :: l => match Nat.beq k x with
    | true => true
    | false => awg k l
def awf (s : AS) : Nat -> List Nat -> List Nat -> List Nat
  | 0,_,acc => acc
  | n + 1, ks, acc => match ks with
    | [] => acc
    | k :: ks => match awg k acc with
      | true => awf s n ks acc
      | false => match s.blk k with
        | some z => awf s n (z.nm ++ ks) (acc ++ [k])
        | none => awf s n ks acc
def pkH (s : AS) : List Nat -> Hp
  | [] => []
  | k :: ks => match s.blk k with
    | some z => (k,some z) :: pkH s ks
    | none => pkH s ks
theorem aqt {s : AS} : ∀ {ks : List Nat} {k : Nat} {z : Blk}, lk (pkH s ks) k = some z -> lk s.hp k = some z
 | [],k,z,h => by cases h
 | k' :: ks, k, z, h => by
  unfold pkH at h
  split at h
  ·rename_i y hy
   rw [aac] at h
   split at h
   ·rename_i e; cases h; rw [e]; exact hy
   ·exact aqt h
  ·exact aqt h
structure Ent (P : Program) where
  f : FuncId
  xs : List AV
  r : AV
  H' : Hp
  con : Con P f xs [] r H'
structure FE (P : Program) where
  f : FuncId
  fn : Func
  c : Code
  rs : List ResultVar
  hf : P.funcs[f]? = some fn
  hb : fn.body = some c
  hn : (fn.name == "runtime.NumGoroutine") = false
  hrs : fn.results = rs.toArray
structure Env (P : Program) where
  orc : FuncId -> Option (List AV -> Option (Ent P))
  fe : FuncId -> Option (FE P)
  mt : FuncId -> Bool
def vEq : Value -> Value -> Bool
  | .int k a,.int k' b => Nat.beq (ikn k) (ikn k') && aab .eql a b
  | .bool a,.bool b => a == b
  | .nilIface,.nilIface => true
  | .string a,.string b => a3h a b
  | .slice none 0 0,.slice none 0 0 => true
  | .func (.func f) ⟨[]⟩ ⟨[]⟩,.func (.func g) ⟨[]⟩ ⟨[]⟩ => Nat.beq f g
  | .nilFunc,.nilFunc => true
  | .pointer none,.pointer none => true
  | .iface T v,.iface T' v' => Nat.beq T T' && vEq v v'
  | _,_ => false
theorem a75 {a b : ByteArray} (h : a3h a b = true) : a = b := by
 unfold a3h at h
 rw [ato] at h
 have h := eq_of_beq h
 have e : ∀ c : ByteArray,c = ⟨⟨c.data.toList⟩⟩ := fun c => by cases c; rfl
 rw [e a,e b,h]
theorem ave : ∀ (a b : Value), vEq a b = true -> a = b
 | .iface T v, b, h => by
  cases b with
  | iface T' v' =>
   simp only [vEq,and_eq_true] at h
   rw [eq_of_beq_eq_true h.1,ave v v' h.2]
  | _ => simp [vEq] at h
 | .int k a, b, h => by
  cases b with
  | int k' b =>
   simp only [vEq,and_eq_true] at h
   rw [af3 h.1,eq_of_beq (show (a == b) = true from h.2)]
  | _ => simp [vEq] at h
 | .bool a, b, h => by
  cases b with
  | bool b => simp only [vEq,beq_iff_eq] at h; rw [h]
  | _ => simp [vEq] at h
 | .string a, b, h => by
  cases b with
  | string b => simp only [vEq] at h; rw [a75 h]
  | _ => simp [vEq] at h
 | .nilIface, b, h => by
  cases b <;> simp [vEq] at h
  rfl
 | .slice x n c, b, h => by
  unfold vEq at h
  split at h <;> simp_all
 | .float ..,b,h => by simp [vEq] at h
 | .complex ..,b,h => by simp [vEq] at h
 | .pointer p, b, h => by
  unfold vEq at h
  split at h <;> simp_all
 | .map _,b,h => by simp [vEq] at h
 | .chan _,b,h => by simp [vEq] at h
 | .func f x y, b, h => by
  unfold vEq at h
  split at h <;> first | (simp_all; done) | (simp_all; exact eq_of_beq_eq_true h)
 | .nilFunc, b, h => by
  unfold vEq at h
  split at h <;> simp_all
 | .agg _,b,h => by simp [vEq] at h
 | .tuple _,b,h => by simp [vEq] at h
mutual
def akg : AV -> AV -> Bool
  | .v a, y => match y with
    | .v b => vEq a b
    | .lst _ es => match es with
      | [] => match a with
        | .slice _ 0 _ => true
        | _ => false
      | _ => false
    | _ => false
  | .lst sz es, y => match y with
    | .lst sz' es' => Nat.beq sz sz' && atq es es'
    | _ => false
  | .agg cs, y => match y with
    | .agg cs' => asy cs cs'
    | _ => false
  | .tup cs, y => match y with
    | .tup cs' => avx cs cs'
    | _ => false
  | _,_ => false
def asy : List AV -> List AV -> Bool
  | [], y => match y with
    | [] => true
    | _ => false
  | x :: l, y => match y with
    | x' :: l' => x'.one && akg x x' && asy l l'
    | [] => false
def avx : List AV -> List AV -> Bool
  | [], y => match y with
    | [] => true
    | _ => false
  | x :: l, y => match y with
    | x' :: l' => akg x x' && avx l l'
    | [] => false
def atq : List AV -> List AV -> Bool
  | [], y => match y with
    | [] => true
    | _ => false
  | x :: l, y => match y with
    | x' :: l' => aok x x' && atq l l'
    | [] => false
def aok : AV -> AV -> Bool
  | .agg cs, y => match y with
    | .agg cs' => asy cs cs'
    | _ => false
  | .v a, y => match y with
    | .v b => vEq a b && b.oneCell'
    | .lst _ es => match es with
      | [] => match a with
        | .slice _ 0 _ => true
        | _ => false
      | _ => false
    | _ => false
  | .lst sz es, y => match y with
    | .lst sz' es' => Nat.beq sz sz' && atq es es'
    | _ => false
  | _,_ => false
end
theorem baj {a : Value} {y : AV} (h : akg (.v a) y = true) : Sub (.v a) y := by
 cases y with
 | v b => simp only [akg] at h; rw [ave _ _ h]; exact .refl _
 | lst sz es =>
  cases es with
  | nil =>
   cases a with
   | slice x n c =>
    cases n with
    | zero => exact .nil _ _ _
    | succ n => simp [akg] at h
   | _ => simp [akg] at h
  | cons e es => simp [akg] at h
 | _ => simp [akg] at h
mutual
theorem as4 : ∀ (x y : AV), akg x y = true -> Sub x y
 | .v a,y,h => baj h
 | .lst sz es, y, h => by
  cases y with
  | lst sz' es' =>
   simp only [akg,and_eq_true] at h
   cases eq_of_beq_eq_true h.1
   exact Sub.lst (ai8 es es' h.2).1 (ai8 es es' h.2).2
  | _ => simp [akg] at h
 | .agg cs, y, h => by
  cases y with
  | agg cs' =>
   simp only [akg] at h
   exact Sub.agg (aky cs cs' h).1 (aky cs cs' h).2
  | _ => simp [akg] at h
 | .tup cs, y, h => by
  cases y with
  | tup cs' =>
   simp only [akg] at h
   exact Sub.tup (au7 cs cs' h)
  | _ => simp [akg] at h
 | .iptr _,y,h => by simp [akg] at h
 | .ms ..,y,h => by simp [akg] at h
 | .ptr ..,y,h => by simp [akg] at h
 | .eptr ..,y,h => by simp [akg] at h
 | .fn ..,y,h => by simp [akg] at h
 | .opt ..,y,h => by simp [akg] at h
 | .yl ..,y,h => by simp [akg] at h
 | .cl ..,y,h => by simp [akg] at h
theorem aky : ∀ (l l' : List AV), asy l l' = true -> SubL l l' /\ l'.all AV.one = true
 | [],[],h => ⟨.nil,rfl⟩
 | [],_ :: _,h => by simp [asy] at h
 | _ :: _,[],h => by simp [asy] at h
 | x :: l, x' :: l', h => by
  simp only [asy,and_eq_true] at h
  obtain ⟨h1,h2⟩ := aky l l' h.2
  exact ⟨.cons (as4 x x' h.1.2) h1,by simp only [List.all_cons,h.1.1,h2,Bool.and_self]⟩
theorem au7 : ∀ (l l' : List AV), avx l l' = true -> SubL l l'
 | [],[],h => .nil
 | [],_ :: _,h => by simp [avx] at h
 | _ :: _,[],h => by simp [avx] at h
 | x :: l, x' :: l', h => by
  simp only [avx,and_eq_true] at h
  exact .cons (as4 x x' h.1) (au7 l l' h.2)
theorem ai8 : ∀ (l l' : List AV), atq l l' = true -> l.length = l'.length /\ ∀ (i : Nat) (e e' : AV), l[i]? = some e -> l'[i]? = some e' -> adi e e'
 | [],[],h => ⟨rfl,fun i e e' h => by simp at h⟩
 | [],_ :: _,h => by simp [atq] at h
 | _ :: _,[],h => by simp [atq] at h
 | x :: l, x' :: l', h => by
  simp only [atq,and_eq_true] at h
  obtain ⟨h1,h2⟩ := ai8 l l' h.2
  refine ⟨by simp [h1],?_⟩
  intro i e e' he he'
  cases i with
  | zero => simp at he he'; subst he; subst he'; exact a6n x x' h.1
  | succ i => exact h2 i e e' (by simpa using he) (by simpa using he')
theorem a6n : ∀ (x y : AV), aok x y = true -> adi x y
 | .v a, y, h => by
  have one : ∀ {z : AV}, z.cells = [z] -> z.one = true -> Sub (.v a) z -> adi (.v a) z := by
   intro z h1 h2 h3
   refine ⟨by rw [h1]; rfl,?_⟩
   intro j x y hx hy
   rw [h1] at hy
   cases j with
   | zero => simp [AV.cells] at hx hy; subst hx; subst hy; exact ⟨h2,h3⟩
   | succ j => simp at hy
  cases y with
  | v b =>
   simp only [aok,and_eq_true] at h
   exact one rfl h.2 (by rw [ave _ _ h.1]; exact .refl _)
  | lst sz es =>
   refine one rfl rfl (baj ?_)
   cases es with
   | nil => unfold aok at h; unfold akg; exact h
   | cons => simp [aok] at h
  | _ => simp [aok] at h
 | .lst sz es, y, h => by
  cases y with
  | lst sz' es' =>
   simp only [aok,and_eq_true] at h
   cases eq_of_beq_eq_true h.1
   refine ⟨rfl,?_⟩
   intro j x y hx hy
   cases j with
   | zero =>
    simp [AV.cells] at hx hy; subst hx; subst hy
    exact ⟨rfl,Sub.lst (ai8 es es' h.2).1 (ai8 es es' h.2).2⟩
   | succ j => simp [AV.cells] at hy
  | _ => simp [aok] at h
 | .agg cs, y, h => by
  cases y with
  | agg cs' =>
   simp only [aok] at h
   obtain ⟨h1,h2⟩ := aky cs cs' h
   exact ⟨h1.len,fun j x y hx hy => ⟨List.all_eq_true.1 h2 y (mem_of_getElem? hy),h1.get j x y hx hy⟩⟩
  | _ => simp [aok] at h
 | .tup ..,y,h => by simp [aok] at h
 | .iptr _,y,h => by simp [aok] at h
 | .ms ..,y,h => by simp [aok] at h
 | .ptr ..,y,h => by simp [aok] at h
 | .eptr ..,y,h => by simp [aok] at h
 | .fn ..,y,h => by simp [aok] at h
 | .opt ..,y,h => by simp [aok] at h
 | .yl ..,y,h => by simp [aok] at h
 | .cl ..,y,h => by simp [aok] at h
end
end Go.Lw
namespace Go.Lw
variable {P : Program} {N : Nat}
inductive OR where
  | ok (u : Out)
  | need (k : Nat)
  | no
inductive CR where
  | ok (H : Hp) (r : AV) (H' : Hp)
  | need (k : Nat)
  | no
def ar3 : List AV -> List AV -> Bool
  | [], y => match y with
    | [] => true
    | _ => false
  | x :: l, y => match y with
    | x' :: l' => akg x x' && ar3 l l'
    | [] => false
theorem au8 : ∀ {l l' : List AV}, ar3 l l' = true -> SubL l l'
 | [],[],h => .nil
 | [],_ :: _,h => by simp [ar3] at h
 | _ :: _,[],h => by simp [ar3] at h
 | x :: l, x' :: l', h => by
  simp only [ar3,and_eq_true] at h
  exact .cons (as4 x x' h.1) (au8 h.2)
def mx : Nat -> List Nat -> Nat
  | m,[] => m
  | m, k :: l => match Nat.blt m k && Nat.blt k 1000 with
    | true => mx k l
    | false => mx m l
def a6b (s : AS) : Nat -> Nat -> Nat
  | 0,k => k
  | n + 1, k => match s.freshB k with
    | true => k
    | false => a6b s n (k + 1)
def nxt (s : AS) (av : List Nat) : Nat := a6b s 100 (mx (mx 299 (s.hp.map (·.1))) av + 1)
mutual
theorem AV.pm_id (σ : Nat -> Nat) : ∀ x : AV, x.nm = [] -> x.pm σ = x
 | .ms k sz off len,h => by simp [AV.nm] at h
 | .ptr k off,h => by simp [AV.nm] at h
 | .eptr k sz i off,h => by simp [AV.nm] at h
 | .yl k,h => by simp [AV.nm] at h
 | .agg cs,h => by simp only [AV.pm]; rw [AV.pms_id σ cs (by simpa only [AV.nm] using h)]
 | .tup cs,h => by simp only [AV.pm]; rw [AV.pms_id σ cs (by simpa only [AV.nm] using h)]
 | .fn f cs,h => by simp only [AV.pm]; rw [AV.pms_id σ cs (by simpa only [AV.nm] using h)]
 | .opt b x,h => by simp only [AV.pm]; rw [AV.pm_id σ x (by simpa only [AV.nm] using h)]
 | .v x,h => rfl
 | .lst sz l,h => rfl
 | .iptr l,h => rfl
 | .cl f cs ds,h => rfl
theorem AV.pms_id (σ : Nat -> Nat) : ∀ l : List AV, AV.nms l = [] -> AV.pms σ l = l
 | [],h => rfl
 | x :: l, h => by
  simp only [AV.nms,List.append_eq_nil_iff] at h
  simp only [AV.pms]; rw [AV.pm_id σ x h.1,AV.pms_id σ l h.2]
end
theorem a70 {f : FuncId} {xs : List AV} {r : AV} {H' : Hp} (h : Con P f xs [] r H') (hx : AV.nms xs = []) (k d : Nat) : Con P f xs [] (r.pm (tr k d)) (pmH (tr k d) H') := by
 have h1 := h.pm (a2s k d)
 rw [<- AV.pms_eq,AV.pms_id _ xs hx] at h1
 exact h1
abbrev afv := List Nat -> FuncId -> List AV -> Hp -> Option (AV × Hp)
def afv.Ok (P : Program) (F : afv) : Prop := ∀ av f xs H r H',F av f xs H = some (r,H') -> Con P f xs H r H'
def bdu (s : AS) : List Nat -> Option Nat
  | [] => none
  | k :: ks => match s.blk k with
    | some (.row _ _) => some k
    | _ => bdu s ks
def a2i (F : afv) (s : AS) (av : List Nat) (f : FuncId) (xs : List AV) : CR :=
  match pkH s (awf s 300 (AV.nms xs) []) with
  | H => match F (s.hp.map (·.1) ++ av) f xs H with
    | some (r,H') => .ok H r H'
    | none => .no
def aza (E : Env P) (F : afv) (s : AS) (av : List Nat) (f : FuncId) (xs : List AV) : CR := match E.mt f with
  | true => a2i F s av f xs
  | false => match bdu s (AV.nms xs) with
    | some k => .need k
    | none => a2i F s av f xs
def as8 (E : Env P) (F : afv) (s : AS) (av : List Nat) (f : FuncId) (xs : List AV) : CR := match E.orc f with
  | some g => match AV.nms xs with
    | k :: _ => .need k
    | [] => match g xs with
      | some e => match Nat.beq e.f f && ar3 xs e.xs with
        | true => match e.H' with
          | (k,some z) :: l => .ok [] (e.r.pm (tr k (nxt s av))) (pmH (tr k (nxt s av)) e.H')
          | _ => .ok [] e.r e.H'
        | false => aza E F s av f xs
      | none => aza E F s av f xs
  | none => aza E F s av f xs
theorem at6 {F : afv} (hF : F.Ok P) {s : AS} {av : List Nat} {f : FuncId} {xs : List AV} {H H' : Hp} {r : AV} (h : a2i F s av f xs = .ok H r H') : Con P f xs H r H' /\ ∀ k z, lk H k = some z -> s.blk k = some z := by
 unfold a2i at h
 simp only at h
 split at h
 ·rename_i h1; cases h; exact ⟨hF _ _ _ _ _ _ h1,fun k z hz => aqt hz⟩
 ·cases h
theorem aov {E : Env P} {F : afv} (hF : F.Ok P) {s : AS} {av : List Nat} {f : FuncId} {xs : List AV} {H H' : Hp} {r : AV} (h : aza E F s av f xs = .ok H r H') : Con P f xs H r H' /\ ∀ k z, lk H k = some z -> s.blk k = some z := by
 unfold aza at h
 split at h
 ·exact at6 hF h
 ·split at h
  ·cases h
  ·exact at6 hF h
theorem aiv {E : Env P} {F : afv} (hF : F.Ok P) {s : AS} {av : List Nat} {f : FuncId} {xs : List AV} {H H' : Hp} {r : AV} (h : as8 E F s av f xs = .ok H r H') : Con P f xs H r H' /\ ∀ k z, lk H k = some z -> s.blk k = some z := by
 unfold as8 at h
 split at h
 ·split at h
  ·cases h
  ·rename_i hn
   split at h
   ·rename_i e he
    split at h
    ·rename_i hc
     simp only [and_eq_true] at hc
     have hf := eq_of_beq_eq_true hc.1
     subst hf
     have h9 := Con.subA (au8 hc.2) e.con
     split at h
     ·rename_i k z l _
      obtain ⟨rfl,rfl,rfl⟩ := CR.ok.inj h
      exact ⟨a70 h9 hn _ _,fun k z hz => by cases hz⟩
     ·obtain ⟨rfl, rfl, rfl⟩ := CR.ok.inj h
      exact ⟨h9,fun k z hz => by cases hz⟩
    ·exact aov hF h
   ·exact aov hF h
 ·exact aov hF h
theorem axp {s : AS} {R : Array Oper} {d q sz cap0 : Nat} {a0 : Option Addr} {xs : List AV} {x y : Operand} {T E t : TypeId} {ti te : TI} {pos : String} {after : Array Edge}
  (hx : Ev s x (.v (.slice a0 0 0))) (hy : Ev s y (.lst sz xs)) (hT : aae P T = some ti) (hkd : ti.k = .slice E) (hE : aae P E = some te)
  (hsz : te.size = sz) (hz0 : (Nat.beq te.zero.length te.size && Nat.blt 0 te.size && Nat.blt 0 te.bytes) = true) (hb : (0 + xs.length) * te.bytes <= 140737488355328) (hdk : Nat.beq d q = false)
  (hN : Nat.blt d N = true) :
  Step P N R s ⟨some d, .call ⟨.builtin .append, #[x, y], #[T, T]⟩, t, pos, after, none⟩
   ⟨some (.ms d sz 0 (0 + xs.length)),[(d,some (.row sz ([] ++ xs))),(q,none)],aah x ++ aah y,[]⟩ := by
 refine ⟨fun s' hag hnew C m a w Q next hC hr hnext => ?_⟩
 have hq : s'.Fresh q := by
  rcases hnew q (by simp) with h | h
  ·cases h
  ·exact h
 have hd : s'.Fresh d := by
  rcases hnew d (by simp) with h | h
  ·cases h
  ·exact h
 have hdq := Nat.ne_of_beq_eq_false hdk
 have hx' := hx.agree hag (fun _ h => List.mem_append.2 (.inl h))
 have hy' := hy.agree hag (fun _ h => List.mem_append.2 (.inr h))
 let s2 : AS := ⟨s'.sl,(q,some (.row sz [])) :: s'.hp⟩
 have evs : ∀ {o : Operand} {z : AV}, Ev s' o z -> Ev s2 o z := fun h => by
  cases h with
  | tmp h => exact .tmp h
  | opt h hb => exact .opt h hb
  | const c => exact .const c
  | func f => exact .func f
 have st := ap6 (P := P) (N := N) (R := R) (s := s2) (d := d) (k := q) (t := t) (pos := pos) (after := after) (es := []) (evs hx') (fun g S m v h => Sub.nilMs a0 q sz g S m v h) (by simp [s2,AS.blk,aac]) rfl (evs hy') hT hkd hE hsz hz0 hb hdk hN
 refine st.run s2 ⟨fun _ _ => rfl,fun _ _ => rfl⟩ ?_ C _ a w Q next hC (hr.virt sz hq) (fun m' a' w' hr' => hnext m' a' w' ?_)
 ·intro k hk
  simp only [map_cons,List.map_nil,mem_cons,not_mem_nil,or_false] at hk
  rcases hk with rfl | rfl
  ·exact .inr (Fresh.row hd hdq (fun h => h))
  ·exact .inl (by simp)
 ·refine RelM.congr ?_ ?_ hr'
  ·intro t; rfl
  ·intro k
   simp only [AS.app,AS.blk,s2,List.cons_append,List.nil_append,aac]
   split
   ·rfl
   ·split <;> rfl
mutual
def avd : AV -> AV -> Bool
  | .v a, y => match y with
    | .v b => vEq a b
    | _ => false
  | .lst sz es, y => match y with
    | .lst sz' es' => Nat.beq sz sz' && aki es es'
    | _ => false
  | .agg cs, y => match y with
    | .agg cs' => aki cs cs'
    | _ => false
  | .tup cs, y => match y with
    | .tup cs' => aki cs cs'
    | _ => false
  | .iptr cs, y => match y with
    | .iptr cs' => aki cs cs'
    | _ => false
  | .ms k sz off len, y => match y with
    | .ms k' sz' off' len' => Nat.beq k k' && (Nat.beq sz sz' && (Nat.beq off off' && Nat.beq len len'))
    | _ => false
  | .ptr k off, y => match y with
    | .ptr k' off' => Nat.beq k k' && Nat.beq off off'
    | _ => false
  | .eptr k sz i off, y => match y with
    | .eptr k' sz' i' off' => Nat.beq k k' && (Nat.beq sz sz' && (Nat.beq i i' && Nat.beq off off'))
    | _ => false
  | .fn f cs, y => match y with
    | .fn f' cs' => Nat.beq f f' && aki cs cs'
    | _ => false
  | .opt _ _,_ => false
  | .yl _,_ => false
  | .cl _ _ _,_ => false
def aki : List AV -> List AV -> Bool
  | [], y => match y with
    | [] => true
    | _ => false
  | x :: l, y => match y with
    | x' :: l' => avd x x' && aki l l'
    | [] => false
end
mutual
theorem a6g : ∀ (x y : AV), avd x y = true -> x = y
 | .v a,y,h => by cases y <;> simp [avd] at h; rw [ave _ _ h]
 | .lst sz es, y, h => by
  cases y <;> simp only [avd,and_eq_true,Bool.false_eq_true] at h
  rw [eq_of_beq_eq_true h.1,ae1 _ _ h.2]
 | .agg cs,y,h => by cases y <;> simp only [avd,Bool.false_eq_true] at h; rw [ae1 _ _ h]
 | .tup cs,y,h => by cases y <;> simp only [avd,Bool.false_eq_true] at h; rw [ae1 _ _ h]
 | .iptr cs,y,h => by cases y <;> simp only [avd,Bool.false_eq_true] at h; rw [ae1 _ _ h]
 | .ms k sz off len, y, h => by
  cases y <;> simp only [avd,and_eq_true,Bool.false_eq_true] at h
  rw [eq_of_beq_eq_true h.1,eq_of_beq_eq_true h.2.1,eq_of_beq_eq_true h.2.2.1,eq_of_beq_eq_true h.2.2.2]
 | .ptr k off, y, h => by
  cases y <;> simp only [avd,and_eq_true,Bool.false_eq_true] at h
  rw [eq_of_beq_eq_true h.1,eq_of_beq_eq_true h.2]
 | .eptr k sz i off, y, h => by
  cases y <;> simp only [avd,and_eq_true,Bool.false_eq_true] at h
  rw [eq_of_beq_eq_true h.1,eq_of_beq_eq_true h.2.1,eq_of_beq_eq_true h.2.2.1,eq_of_beq_eq_true h.2.2.2]
 | .fn f cs, y, h => by
  cases y <;> simp only [avd,and_eq_true,Bool.false_eq_true] at h
  rw [eq_of_beq_eq_true h.1,ae1 _ _ h.2]
 | .opt ..,y,h => by simp [avd] at h
 | .yl ..,y,h => by simp [avd] at h
 | .cl ..,y,h => by simp [avd] at h
theorem ae1 : ∀ (l l' : List AV), aki l l' = true -> l = l'
 | [],[],h => rfl
 | [],_ :: _,h => by simp [aki] at h
 | _ :: _,[],h => by simp [aki] at h
 | x :: l, x' :: l', h => by
  simp only [aki,and_eq_true] at h
  rw [a6g x x' h.1,ae1 l l' h.2]
end
def a68 : Blk -> Blk -> Bool
  | .box cs,.box cs' => aki cs cs'
  | .row sz es,.row sz' es' => Nat.beq sz sz' && aki es es'
  | _,_ => false
theorem a3z {x y : Blk} (h : a68 x y = true) : x = y := by
 cases x <;> cases y <;> simp only [a68,Bool.false_eq_true] at h
 ·rw [ae1 _ _ h]
 ·simp only [and_eq_true] at h
  rw [eq_of_beq_eq_true h.1,ae1 _ _ h.2]
theorem af4 {k : Nat} : ∀ {l : List Nat}, awg k l = true ↔ k ∈ l
 | [] => by simp [awg]
 | x :: l => by
  unfold awg
  split
  ·rename_i h; simp [eq_of_beq_eq_true h]
  ·rename_i h; rw [af4 (l := l)]; simp [Nat.ne_of_beq_eq_false h]
def chg (H : Hp) : List Nat -> Hp -> Hp
  | _,[] => []
  | seen, (k, x) :: l => match awg k seen with
    | true => chg H seen l
    | false => match x with
      | some z => match lk H k with
        | some y => match a68 y z with
          | true => chg H (k :: seen) l
          | false => (k,some z) :: chg H (k :: seen) l
        | none => (k,some z) :: chg H (k :: seen) l
      | none => (k,none) :: chg H (k :: seen) l
theorem aw9 {H R : Hp} (hR : ∀ t y, lk H t = some y -> lk R t = some y) : ∀ {l : Hp} {seen : List Nat} {t : Nat}, t ∉ seen -> lk (chg H seen l ++ R) t = if t ∈ l.map (·.1) then lk l t else lk R t
 | [],seen,t,h => by simp [chg]
 | (k, x) :: l, seen, t, h => by
  have rest : t ≠ k -> lk (chg H (k :: seen) l ++ R) t = if t ∈ ((k, x) :: l).map (·.1) then lk ((k, x) :: l) t else lk R t := by
   intro hne
   rw [aw9 hR (fun hh => by rcases List.mem_cons.1 hh with e | e; exact hne e; exact h e)]
   simp only [map_cons,mem_cons,hne,false_or]
   rw [aac,if_neg hne]
  have head : lk ((k, x) :: (chg H (k :: seen) l ++ R)) t = if t ∈ ((k, x) :: l).map (·.1) then lk ((k, x) :: l) t else lk R t := by
   rw [aac]
   by_cases e : t = k
   ·rw [if_pos e,aac,if_pos e]; simp [e]
   ·rw [if_neg e,rest e]
  unfold chg
  split
  ·rename_i hm
   have hne : t ≠ k := fun e => h (by rw [e]; exact af4.1 hm)
   rw [aw9 hR h]
   simp only [map_cons,mem_cons,hne,false_or]
   rw [aac,if_neg hne]
  ·split
   ·rename_i z
    split
    ·rename_i y hy
     split
     ·rename_i he
      by_cases e : t = k
      ·rw [chg_none (by rw [e]; exact mem_cons_self ..), e, hR k y hy, a3z he]
       simp [aac]
      ·exact rest e
     ·exact head
    ·exact head
   ·exact head
where
 chg_none {H R : Hp} : ∀ {l : Hp} {seen : List Nat} {t : Nat}, t ∈ seen -> lk (chg H seen l ++ R) t = lk R t
  | [],seen,t,h => rfl
  | (k, x) :: l, seen, t, h => by
   unfold chg
   split
   ·exact chg_none h
   ·rename_i hm
    have hne : t ≠ k := fun e => by rw [e] at h; rw [af4.2 h] at hm; cases hm
    have ih := chg_none (H := H) (R := R) (l := l) (mem_cons_of_mem k h)
    split
    ·split
     ·split
      ·exact ih
      ·show lk (_ :: (_ ++ R)) t = _
       rw [aac,if_neg hne]; exact ih
     ·show lk (_ :: (_ ++ R)) t = _
      rw [aac,if_neg hne]; exact ih
    ·show lk (_ :: (_ ++ R)) t = _
     rw [aac,if_neg hne]; exact ih
theorem aoz {H : Hp} : ∀ {l : Hp} {seen : List Nat} {k : Nat}, k ∈ l.map (·.1) -> k ∉ seen -> k ∈ (chg H seen l).map (·.1) \/ ∃ y, lk H k = some y
 | [],seen,k,h,_ => by simp at h
 | (k', x) :: l, seen, k, h, hs => by
  unfold chg
  by_cases e : k = k'
  ·subst e
   have hm : awg k seen = false := by
    cases hq : awg k seen with
    | true => exact absurd (af4.1 hq) hs
    | false => rfl
   simp only [hm]
   split
   ·split
    ·rename_i y hy
     split
     ·exact .inr ⟨y,hy⟩
     ·exact .inl (by simp)
    ·exact .inl (by simp)
   ·exact .inl (by simp)
  ·have h' : k ∈ l.map (·.1) := by simpa [e] using h
   have hs' : k ∉ k' :: seen := fun hh => by rcases List.mem_cons.1 hh with e' | e'; exact e e'; exact hs e'
   have ih1 := aoz (H := H) h' hs
   have ih2 := aoz (H := H) h' hs'
   split
   ·exact ih1
   ·split
    ·split
     ·split
      ·exact ih2
      ·rcases ih2 with h | h
       ·exact .inl (mem_cons_of_mem _ h)
       ·exact .inr h
     ·rcases ih2 with h | h
      ·exact .inl (mem_cons_of_mem _ h)
      ·exact .inr h
    ·rcases ih2 with h | h
     ·exact .inl (mem_cons_of_mem _ h)
     ·exact .inr h
theorem agn {R : Array Oper} {s : AS} {o : Oper} {x : Option AV} {H U : Hp} {rt : List Nat} (hH : ∀ k z, lk H k = some z -> s.blk k = some z) (h : Step P N R s o ⟨x, U, rt, H.map (·.1)⟩) :
  Step P N R s o ⟨x,chg H [] U,rt,H.map (·.1)⟩ := by
 refine ⟨fun s' hag hnew C m a w Q next hC hr hnext => ?_⟩
 have hH' : ∀ k z,lk H k = some z -> lk s'.hp k = some z := fun k z hz => (hag.2 k (aay hz)).trans (hH k z hz)
 refine h.run s' hag (fun k hk => ?_) C m a w Q next hC hr (fun m' a' w' hr' => hnext m' a' w' ?_)
 ·rcases aoz (H := H) hk (seen := []) (by simp) with h1 | ⟨y, hy⟩
  ·exact hnew k h1
  ·exact .inl (aay hy)
 ·refine RelM.congr (s := s'.app o.dst ⟨x, U, rt, H.map (·.1)⟩) (fun t => rfl) (fun k => ?_) hr'
  simp only [AS.blk,AS.app]
  rw [aw9 hH' (by simp),acg]
variable [Inhabited (Tys P)]
def bc8 (P : Program) [Inhabited (Tys P)] (s : AS) (d : Nat) (x y : Operand) (T : TypeId) : OR := match rdC s y with
  | some (.lst sz xs) => match agi P T with
    | some ti => match ti.k with
      | .slice E => match agi P E with
        | some te => match Nat.beq te.size sz && (Nat.beq te.zero.length te.size && Nat.blt 0 te.size && Nat.blt 0 te.bytes) with
          | true => match rdC s x with
            | some (.ms k sz' off len) => match s.blk k with
              | some (.row sz2 es) => match Nat.beq sz' sz && Nat.beq off 0 && Nat.beq sz2 sz && Nat.beq len es.length && Nat.ble ((len + xs.length) * te.bytes) 140737488355328 with
                | true => match Nat.beq d k with
                  | true => .no
                  | false => match frc (es ++ xs) with
                    | some l => wN (len + xs.length) fun n => .ok ⟨some (.ms d sz 0 n),[(d,some (.row sz l)),(k,none)],aah x ++ aah y,[k]⟩
                    | none => .no
                | false => .no
              | _ => .no
            | some (.v (.slice a0 0 0)) => match Nat.ble ((0 + xs.length) * te.bytes) 140737488355328 with
              | true => match Nat.beq d 299 with
                | true => .no
                | false => match frc ([] ++ xs) with
                  | some l => wN (0 + xs.length) fun n => .ok ⟨some (.ms d sz 0 n),[(d,some (.row sz l)),(299,none)],aah x ++ aah y,[]⟩
                  | none => .no
              | false => .no
            | _ => .no
          | false => .no
        | none => .no
      | _ => .no
    | none => .no
  | some (.ms k _ _ _) => .need k
  | _ => .no
theorem a6o {s : AS} {R : Array Oper} {d : Nat} {x y : Operand} {T t : TypeId} {u : Out} {pos : String} {after : Array Edge} (h : bc8 P s d x y T = .ok u) (hN : Nat.blt d N = true) :
  Step P N R s ⟨some d,.call ⟨.builtin .append,#[x,y],#[T,T]⟩,t,pos,after,none⟩ u := by
 unfold bc8 at h
 split at h
 ·rename_i sz xs hy
  split at h
  ·rename_i ti hT
   split at h
   ·rename_i E hk
    split at h
    ·rename_i te hE
     split at h
     ·rename_i hc
      simp only [and_eq_true] at hc
      have hsz := eq_of_beq_eq_true hc.1
      have hz0 : (Nat.beq te.zero.length te.size && Nat.blt 0 te.size && Nat.blt 0 te.bytes) = true:=by simp only [and_eq_true]; exact hc.2
      split at h
      ·rename_i k sz' off len hx
       split at h
       ·rename_i sz2 es hb
        split at h
        ·rename_i hg
         simp only [and_eq_true,Nat.ble_eq] at hg
         obtain ⟨⟨⟨⟨g1,g2⟩,g3⟩,g4⟩,g5⟩ := hg
         cases eq_of_beq_eq_true g1
         cases eq_of_beq_eq_true g2
         cases eq_of_beq_eq_true g3
         split at h
         ·cases h
         ·rename_i hdk
          split at h
          ·rename_i l hl
           cases ae3 hl
           rw [asl] at h; cases h
           exact ab5 (aa3 hx) hb (eq_of_beq_eq_true g4) (aa3 hy) (aas hT) hk (aas hE) hsz hz0 g5 hdk hN
          ·cases h
        ·cases h
       ·cases h
      ·rename_i a0 hx
       split at h
       ·rename_i g5
        rw [Nat.ble_eq] at g5
        split at h
        ·cases h
        ·rename_i hdk
         split at h
         ·rename_i l hl
          cases ae3 hl
          rw [asl] at h; cases h
          exact axp (cap0 := 0) (aa3 hx) (aa3 hy) (aas hT) hk (aas hE) hsz hz0 g5 hdk hN
         ·cases h
       ·cases h
      ·cases h
     ·cases h
    ·cases h
   ·cases h
  ·cases h
 ·cases h
 ·cases h
def bcs (P : Program) [Inhabited (Tys P)] (s : AS) (T : TypeId) (x y : Operand) : OR := match rdC s x with
  | some (.eptr k sz i off) => match rdC s y with
    | some v => match v.nm with
      | k' :: _ => .need k'
      | [] => match s.blk k with
        | some (.row sz' es) => match es[i]? with
          | some e => match agi P T with
            | some ti => match Nat.beq sz sz' && v.ok && Nat.beq v.cells.length ti.size && Nat.ble (off + ti.size) e.cells.length with
              | true => match e with
                | .agg cs => match frc (over cs off v.cells) with
                  | some l => match frc (es.set i (.agg l)) with
                    | some es' => .ok ⟨none,[(k,some (.row sz es'))],aah x ++ aah y,[k]⟩
                    | none => .no
                  | none => .no
                | e => match Nat.beq off 0 && Nat.beq v.cells.length 1 with
                  | true => match frc (es.set i v) with
                    | some es' => .ok ⟨none,[(k,some (.row sz es'))],aah x ++ aah y,[k]⟩
                    | none => .no
                  | false => .no
              | false => .no
            | none => .no
          | none => .no
        | _ => .no
    | none => .no
  | _ => .no
theorem avp {e : AV} (h : ∀ cs, e ≠ .agg cs) : e.cells = [e] := by
 cases e <;> first | rfl | exact absurd rfl (h _)
theorem a5u {s : AS} {R : Array Oper} {x y : Operand} {T t : TypeId} {u : Out} {pos : String} {after : Array Edge} (h : bcs P s T x y = .ok u) :
  Step P N R s ⟨none,.store T x y,t,pos,after,none⟩ u := by
 unfold bcs at h
 split at h
 ·rename_i k sz i off hx
  split at h
  ·rename_i v hy
   split at h
   ·cases h
   ·rename_i hnm
    split at h
    ·rename_i sz' es hb
     split at h
     ·rename_i e he
      split at h
      ·rename_i ti hT
       split at h
       ·rename_i hc
        simp only [and_eq_true] at hc
        obtain ⟨⟨⟨c1,c2⟩,c3⟩,c4⟩ := hc
        cases eq_of_beq_eq_true c1
        split at h
        ·rename_i cs
         split at h
         ·rename_i l hl
          split at h
          ·rename_i es' hes
           cases h
           cases ae3 hl
           cases ae3 hes
           exact an6 (aa3 hx) hb he (aa3 hy) c2 hnm (aas hT) c3 c4 rfl
          ·cases h
         ·cases h
        ·rename_i hne
         split at h
         ·rename_i hg
          simp only [and_eq_true] at hg
          split at h
          ·rename_i es' hes
           cases h
           cases ae3 hes
           cases eq_of_beq_eq_true hg.1
           refine an6 (aa3 hx) hb he (aa3 hy) c2 hnm (aas hT) c3 c4 ?_
           rw [avp hne]
           have := eq_of_beq_eq_true hg.2
           simp [over,this]
          ·cases h
         ·cases h
       ·cases h
      ·cases h
     ·cases h
    ·cases h
  ·cases h
 ·cases h
def mkS (P : Program) [Inhabited (Tys P)] (d : Nat) (T : TypeId) (n : Int) (rt : List Nat) : OR := match agi P T with
  | some ti => match ti.k with
    | .slice E => match agi P E with
      | some te => match te.zero.all Value.oneCell' && (Nat.beq te.zero.length te.size && Nat.blt 0 te.size && Nat.blt 0 te.bytes && (te.ag || Nat.beq te.size 1)) with
        | true => match n with
          | .ofNat n => match Nat.ble (n * te.bytes) 281474976710656 with
            | true => match frc (List.replicate n (mkT te.ag (te.zero.map .v))) with
              | some l => .ok ⟨some (.ms d te.size 0 n),[(d,some (.row te.size l))],rt,[]⟩
              | none => .no
            | false => .no
          | .negSucc _ => .no
        | false => .no
      | none => .no
    | _ => .no
  | none => .no
theorem a9q {s : AS} {R : Array Oper} {d : Nat} {x : Operand} {T t : TypeId} {n : Int} {u : Out} {pos : String} {after : Array Edge} (hx : Ev s x (.v (.int .i64 n))) (h : mkS P d T n (aah x) = .ok u) (hN : Nat.blt d N = true) :
  Step P N R s ⟨some d,.makeSlice T x x,t,pos,after,none⟩ u := by
 unfold mkS at h
 split at h
 ·rename_i ti hT
  split at h
  ·rename_i E hk
   split at h
   ·rename_i te hE
    split at h
    ·rename_i hc
     rw [and_eq_true] at hc
     split at h
     ·rename_i n
      split at h
      ·rename_i hb
       rw [Nat.ble_eq] at hb
       split at h
       ·rename_i l hl
        cases h
        cases ae3 hl
        exact afj (n := Int.ofNat n) hx (aas hT) hk (aas hE) hc.1 hc.2 (Int.natCast_nonneg _) (by simp only [Int.ofNat_eq_natCast]; omega) hN
       ·cases h
      ·cases h
     ·cases h
    ·cases h
   ·cases h
  ·cases h
 ·cases h
theorem a52 {P : Program} {N : Nat} {s : AS} {R : Array Oper} {d f : Nat} {g : Operand} {args : Array Operand} {ts : Array TypeId} {xs : List AV} {H H' : Hp} {r : AV} {t : TypeId} {pos : String} {after : Array Edge}
  (hg : Ev s g (.v (.func (.func f) #[] #[]))) (hcon : Con P f xs H r H') (ha : EvL s args.toList xs) (hH : ∀ k z,lk H k = some z -> s.blk k = some z) (hok : acn s H H' r = true) (hN : Nat.blt d N = true) :
  Step P N R s ⟨some d,.call ⟨.value g,args,ts⟩,t,pos,after,none⟩ ⟨some r,H' ++ aim H,aah g ++ rtL args.toList,H.map (·.1)⟩ :=
 agu rfl (fun d' h => by cases h; exact ⟨hN, rfl⟩) hcon hH hok fun s' hag C m a w hr => by
  have hag' : ada s s' ⟨none,[],aah g ++ rtL args.toList,[]⟩ := ⟨hag,fun k hk => by cases hk⟩
  have ha' := ha.agree hag' (fun _ h => List.mem_append.2 (.inr h))
  have hgr := (hg.agree hag' (fun _ h => List.mem_append.2 (.inl h))).rep hr
  generalize hv : a.eval g = u at hgr
  cases hgr
  refine ⟨args.map a.eval,anr (caps := #[]) rfl hv hcon.ok (by simp),?_,?_⟩
  ·have := ha'.length; simpa using this
  ·intro j v x hv hx; exact ha'.rep hr j v x (by simpa using hv) hx
def a7o : Operand -> Operand -> Bool
  | .tmp a,.tmp b => Nat.beq a b
  | .const (.int k a),.const (.int k' b) => Nat.beq (ikn k) (ikn k') && aab .eql a b
  | _,_ => false
theorem a2c {x y : Operand} (h : a7o x y = true) : y = x := by
 unfold a7o at h
 split at h
 ·rw [eq_of_beq_eq_true h]
 ·rename_i k a k' b
  simp only [and_eq_true] at h
  rw [af3 h.1,eq_of_beq (show (a == b) = true from h.2)]
 ·cases h
def opD (E : Env P) (F : afv) (av : List Nat) (s : AS) (d : Nat) (op : Op) : OR := match op with
  | .call c => match c with
    | ⟨.value g, args, ts⟩ => match a8l s args.toList with
      | some xs => match g with
        | .func f => match as8 E F s av f xs with
          | .ok H r H' => match acn s H H' r with
            | true => .ok ⟨some r,chg H [] (H' ++ aim H),rtL args.toList,H.map (·.1)⟩
            | false => .no
          | .need k => .need k
          | .no => .no
        | g => match rdC s g with
          | some (.fn f caps) => match as8 E F s av f (xs ++ caps) with
            | .ok H r H' => match acn s H H' r with
              | true => .ok ⟨some r,chg H [] (H' ++ aim H),aah g ++ rtL args.toList,H.map (·.1)⟩
              | false => .no
            | .need k => .need k
            | .no => .no
          | some (.v (.func (.func f) ⟨[]⟩ ⟨[]⟩)) => match as8 E F s av f xs with
            | .ok H r H' => match acn s H H' r with
              | true => .ok ⟨some r,chg H [] (H' ++ aim H),aah g ++ rtL args.toList,H.map (·.1)⟩
              | false => .no
            | .need k => .need k
            | .no => .no
          | some (.cl f pre caps) => match as8 E F s av f (pre ++ xs ++ caps) with
            | .ok H r H' => match acn s H H' r with
              | true => .ok ⟨some r,chg H [] (H' ++ aim H),aah g ++ rtL args.toList,H.map (·.1)⟩
              | false => .no
            | .need k => .need k
            | .no => .no
          | _ => .no
      | none => .no
    | ⟨.builtin .append, args, ts⟩ => match args.toList with
      | [x, y] => match ts.toList with
        | [T, T'] => match Nat.beq T T' with
          | true => bc8 P s d x y T
          | false => .no
        | _ => .no
      | _ => .no
    | c => match opV P s (.call c) with
      | some r => .ok ⟨some r.x,[],r.rt,r.rd⟩
      | none => .no
  | .makeSlice T x y => match a7o x y with
    | true => match rdC s x with
      | some (.v (.int .i64 n)) => mkS P d T n (aah x)
      | _ => .no
    | false => .no
  | .slice T x none (some (.const (.int k1 (.ofNat 0)))) (some (.const (.int k2 (.ofNat 0)))) => match rdC s x with
    | some (.lst sz es) => match a6x P T sz with
      | true => .ok ⟨some (.ms d sz 0 0),[(d,some (.row sz []))],aah x,[]⟩
      | false => .no
    | _ => .no
  | .buildSlice T n parts => match n with
    | 0 => match parts.toList with
      | [] => match agi P T with
        | some ti => match ti.k with
          | .slice E => match agi P E with
            | some te => match te.zero.all Value.oneCell' && Nat.beq te.zero.length te.size with
              | true => .ok ⟨some (.ms d te.size 0 0),[(d,some (.row te.size []))],[],[]⟩
              | false => .no
            | none => .no
          | _ => .no
        | none => .no
      | _ => .no
    | n + 1 => match opV P s (.buildSlice T (n + 1) parts) with
      | some r => .ok ⟨some r.x,[],r.rt,r.rd⟩
      | none => match a8l s (parts.toList.map (·.2)) with
        | some xs => match AV.nms xs with
          | k :: _ => .need k
          | [] => .no
        | none => .no
  | op => match opV P s op with
    | some r => .ok ⟨some r.x,[],r.rt,r.rd⟩
    | none => match bbs P s d op with
      | some r => match r.2 with
        | [] => .ok r.1
        | _ => .no
      | none => .no
theorem a41 {E : Env P} {F : afv} (hF : F.Ok P) {av : List Nat} {s : AS} {R : Array Oper} {d : Nat} {op : Op} {u : Out} {t : TypeId} {pos : String} {after : Array Edge} (h : opD E F av s d op = .ok u) (hN : Nat.blt d N = true) :
  Step P N R s ⟨some d,op,t,pos,after,none⟩ u := by
 unfold opD at h
 split at h
 ·split at h
  ·rename_i g args ts
   split at h
   ·rename_i xs hxs
    split at h
    ·rename_i f
     split at h
     ·rename_i H r H' hc
      split at h
      ·rename_i hok
       cases h
       obtain ⟨h1,h2⟩ := aiv hF hc
       exact agn h2 (abe h1 (ajs hxs) h2 hok hN)
      ·cases h
     ·cases h
     ·cases h
    ·split at h
     ·rename_i f caps hg
      split at h
      ·rename_i H r H' hc
       split at h
       ·rename_i hok
        cases h
        obtain ⟨h1,h2⟩ := aiv hF hc
        exact agn h2 (a5x (aa3 hg) h1 (ajs hxs) h2 hok hN)
       ·cases h
      ·cases h
      ·cases h
     ·rename_i f hg
      split at h
      ·rename_i H r H' hc
       split at h
       ·rename_i hok
        cases h
        obtain ⟨h1,h2⟩ := aiv hF hc
        exact agn h2 (a52 (aa3 hg) h1 (ajs hxs) h2 hok hN)
       ·cases h
      ·cases h
      ·cases h
     ·rename_i f pre caps hg
      split at h
      ·rename_i H r H' hc
       split at h
       ·rename_i hok
        cases h
        obtain ⟨h1,h2⟩ := aiv hF hc
        exact agn h2 (a0b (aa3 hg) h1 (ajs hxs) h2 hok hN)
       ·cases h
      ·cases h
      ·cases h
     ·cases h
   ·cases h
  ·rename_i args ts
   split at h
   ·rename_i x y hx
    split at h
    ·rename_i T T' hT
     split at h
     ·rename_i hTT
      cases eq_of_beq_eq_true hTT
      have e1 : args = #[x,y]:=by apply Array.toList_inj.1; simpa using hx
      have e2 : ts = #[T,T]:=by apply Array.toList_inj.1; simpa using hT
      subst e1; subst e2
      exact a6o h hN
     ·cases h
    ·cases h
   ·cases h
  ·split at h
   ·rename_i h1; cases h; exact ax3 h1 hN
   ·cases h
 ·split at h
  ·rename_i he
   cases a2c he
   split at h
   ·rename_i hx; exact a9q (aa3 hx) h hN
   ·cases h
  ·cases h
 ·split at h
  ·rename_i hx
   split at h
   ·rename_i hs
    obtain ⟨ti,E,te,h1,h2,h3,h4⟩ := amj hs
    cases h
    exact a03 (aa3 hx) h1 h2 h3 h4 hN
   ·cases h
  ·cases h
 ·rename_i T n parts
  split at h
  ·split at h
   ·rename_i hp
    have : parts = #[]:=by apply Array.toList_inj.1; simpa using hp
    subst this
    split at h
    ·rename_i ti hT
     split at h
     ·rename_i E hk
      split at h
      ·rename_i te hE
       split at h
       ·rename_i hc
        rw [and_eq_true] at hc
        cases h
        exact ack (aas hT) hk (aas hE) hc.1 hc.2 hN
       ·cases h
      ·cases h
     ·cases h
    ·cases h
   ·cases h
  ·split at h
   ·rename_i h1; cases h; exact ax3 h1 hN
   ·split at h
    ·split at h <;> cases h
    ·cases h
 ·split at h
  ·rename_i h1; cases h; exact ax3 h1 hN
  ·split at h
   ·rename_i h1
    split at h
    ·rename_i ho; cases h; exact ay1 h1 (by rw [ho]; exact .nil) hN
    ·cases h
   ·cases h
def opN (E : Env P) (F : afv) (av : List Nat) (s : AS) (op : Op) : OR := match op with
  | .call c => match c with
    | ⟨.value (.func f), args, ts⟩ => match a8l s args.toList with
      | some xs => match as8 E F s av f xs with
        | .ok H r H' => match acn s H H' r with
          | true => .ok ⟨none,chg H [] (H' ++ aim H),rtL args.toList,H.map (·.1)⟩
          | false => .no
        | .need k => .need k
        | .no => .no
      | none => .no
    | _ => .no
  | .store T x y => match bby P s (.store T x y) with
    | some r => match r.2 with
      | [] => .ok r.1
      | _ => .no
    | none => bcs P s T x y
  | _ => .no
theorem baf {E : Env P} {F : afv} (hF : F.Ok P) {av : List Nat} {s : AS} {R : Array Oper} {op : Op} {u : Out} {t : TypeId} {pos : String} {after : Array Edge} (h : opN E F av s op = .ok u) :
  Step P N R s ⟨none,op,t,pos,after,none⟩ u := by
 unfold opN at h
 split at h
 ·split at h
  ·rename_i f args ts
   split at h
   ·rename_i xs hxs
    split at h
    ·rename_i H r H' hc
     split at h
     ·rename_i hok
      cases h
      obtain ⟨h1,h2⟩ := aiv hF hc
      exact agn h2 (a13 h1 (ajs hxs) h2 hok)
     ·cases h
    ·cases h
    ·cases h
   ·cases h
  ·cases h
 ·split at h
  ·rename_i h1
   split at h
   ·rename_i ho; cases h; exact a1k h1 (by rw [ho]; exact .nil)
   ·cases h
  ·exact a5u h
 ·cases h
theorem Step.sub {P : Program} {N : Nat} {R : Array Oper} {s : AS} {o : Oper} {x y : AV} {upd : Hp} {rt rd : List Nat} (h : Step P N R s o ⟨some x, upd, rt, rd⟩) (hs : Sub x y) : Step P N R s o ⟨some y, upd, rt, rd⟩ := by
 refine ⟨fun s' hag hnew C m a w Q next hC hr hnext => h.run s' hag hnew C m a w Q next hC hr (fun m' a' w' hr' => hnext m' a' w' ?_)⟩
 refine hr'.weak (fun t z hz => ?_) (fun k z hz => ⟨z,hz,.refl _⟩)
 rw [acm] at hz
 split at hz
 ·rename_i ht; cases hz; exact ⟨x,by rw [acm,if_pos ht],hs⟩
 ·rename_i ht; exact ⟨z,by rw [acm,if_neg ht]; exact hz,.refl _⟩
theorem Sub.opt_true (x : AV) : Sub (.opt true x) x := fun g S m v h => by cases h with | opt h _ => exact h rfl
theorem aji (f : AV -> AV) (k : Nat) : ∀ l : Hp, (aex f k l).map (·.1) = l.map (·.1)
 | [] => rfl
 | (k',x) :: l => by simp only [aex,map_cons,aji f k l]
theorem azw {P : Program} {N : Nat} {R : Array Oper} {s : AS} {o : Oper} {d : Nat} {x : AV} {upd : Hp} {rt rd : List Nat} {k sz : Nat} {es : List AV} (hd : o.dst = some d) (hk : lk upd k = some (.row sz es)) (hrd : k ∉ rd)
  (h : Step P N R s o ⟨some x,upd,rt,rd⟩) : Step P N R s o ⟨some (x.fz k sz es),aex (AV.fz k sz es) k upd,rt,rd⟩ := by
 refine ⟨fun s' hag hnew C m a w Q next hC hr hnext => ?_⟩
 have hnew' : akn s' ⟨some x,upd,rt,rd⟩ := fun k' hk' => hnew k' (by rw [aji]; exact hk')
 have hfr : s'.Fresh k := by
  rcases hnew' k (aay hk) with h | h
  ·exact absurd h hrd
  ·exact h
 refine h.run s' hag hnew' C m a w Q next hC hr (fun m' a' w' hr' => ?_)
 rw [hd] at hr'
 have hkk : (s'.app (some d) ⟨some x, upd, rt, rd⟩).blk k = some (.row sz es) := by
  show lk (upd ++ s'.hp) k = _
  rw [acg,if_pos (aay hk),hk]
 obtain ⟨m2,hr2⟩ := Wk.freeze hkk C m' a' w' hr'
 refine hnext m2 a' w' ?_
 rw [hd]
 refine hr2.congr ?_ ?_
 ·intro t
  simp only [AS.get,afw,AS.app,aac]
  split
  ·rfl
  ·cases hx : lk s'.sl t with
   | none => rfl
   | some y => simp only [Option.map_some]; rw [AV.fz_id _ _ _ _ (hfr.2.2.1 t y hx)]
 ·intro k'
  simp only [AS.blk,AS.app]
  rw [ad4,acg,acg,aji,ad4]
  by_cases h1 : k' = k
  ·subst h1
   rw [if_pos rfl,if_pos (aay hk),if_pos rfl]
  ·rw [if_neg h1, if_neg h1]
   split
   ·rfl
   ·cases hx : lk s'.hp k' with
    | none => rfl
    | some y => simp only [Option.map_some]; rw [ans (hfr.2.2.2 k' y hx)]
def a5h : List Nat -> Out -> Out
  | [],u => u
  | k :: ks, u => match u.val with
    | some x => match lk u.upd k with
      | some (.row sz es) => match awg k u.rd with
        | false => a5h ks ⟨some (x.fz k sz es),aex (AV.fz k sz es) k u.upd,u.rt,u.rd⟩
        | true => a5h ks u
      | _ => a5h ks u
    | none => u
theorem amf {P : Program} {N : Nat} {R : Array Oper} {s : AS} {o : Oper} {d : Nat} (hd : o.dst = some d) : ∀ {ks : List Nat} {u : Out}, Step P N R s o u -> Step P N R s o (a5h ks u)
 | [],u,h => h
 | k :: ks, u, h => by
  unfold a5h
  split
  ·rename_i x hx
   split
   ·rename_i sz es hk
    split
    ·rename_i hm
     refine amf hd ?_
     obtain ⟨val,upd,rt,rd⟩ := u
     simp only at hx hk hm
     subst hx
     exact azw hd hk (fun hh => by rw [af4.2 hh] at hm; cases hm) h
    ·exact amf hd h
   ·exact amf hd h
  ·exact h
def opE (E : Env P) (F : afv) (av fz : List Nat) (N : Nat) (R : List Oper) (s : AS) (o : Oper) : OR := match o.guard with
  | none => match o.dst with
    | some d => match Nat.blt d N with
      | true => match opD E F av s d o.op with
        | .ok u => .ok (a5h fz u)
        | r => r
      | false => .no
    | none => opN E F av s o.op
  | some (j, want) => match R[j]? with
    | some og => match og.dst with
      | some g => match o.dst with
        | some d => match Nat.blt d N with
          | true => match s.get g with
            | some (.v (.bool b)) => match b == want with
              | true => match opD E F av s d o.op with
                | .ok u => match (a5h fz u) with
                  | ⟨some x,upd,rt,rd⟩ => .ok ⟨some x,upd,g :: rt,rd⟩
                  | ⟨none,_,_,_⟩ => .no
                | r => r
              | false => .ok ⟨some (.opt false (.v (.bool false))),[],[g],[]⟩
            | some (.opt false (.v (.bool b))) => .ok ⟨some (.opt false (.v (.bool false))),[],[g],[]⟩
            | _ => .no
          | false => .no
        | none => .no
      | none => .no
    | none => .no
theorem a86 {E : Env P} {F : afv} (hF : F.Ok P) {av fz : List Nat} {R : List Oper} {s : AS} {o : Oper} {u : Out} (h : opE E F av fz N R s o = .ok u) : Step P N R.toArray s o u := by
 obtain ⟨dst,op,ty,pos,after,guard⟩ := o
 unfold opE at h
 simp only at h
 split at h
 ·split at h
  ·split at h
   ·rename_i hN
    split at h
    ·rename_i u' h1; cases h; exact amf rfl (a41 hF h1 hN)
    ·rename_i hno; exact absurd h (hno u)
   ·cases h
  ·exact baf hF h
 ·rename_i j want
  split at h
  ·rename_i og hog
   split at h
   ·rename_i g hg
    split at h
    ·rename_i d
     split at h
     ·rename_i hN
      have hj : (R.toArray[j]?).bind (·.dst) = some g:=by simp [hog,hg]
      split at h
      ·rename_i b hb
       split at h
       ·rename_i hw
        split at h
        ·rename_i u' h1
         have hs := amf (ks := fz) rfl (a41 (R := R.toArray) (t := ty) (pos := pos) (after := after) hF h1 hN)
         split at h
         ·rename_i x upd rt rd hx
          cases h
          rw [hx] at hs
          have h2 := ats (want := want) hj hb hN (fun hne => absurd (eq_of_beq hw) hne) (fun _ => hs)
          rw [hw] at h2
          exact h2.sub (.opt_true x)
         ·cases h
        ·rename_i hno; exact absurd h (hno u)
       ·rename_i hw
        cases h
        have h2 := ab6 (P := P) (op := op) (t := ty) (pos := pos) (after := after) (want := want) (x := .v (.bool false)) (rt := []) (rd := []) hj hb hN (fun e => by rw [e] at hw; simp at hw)
        rw [hw] at h2
        exact h2
      ·rename_i b hb
       cases h
       exact aft (P := P) (op := op) (t := ty) (pos := pos) (after := after) (want := want) (x := .v (.bool false)) (rt := []) (rd := []) hj hb hN (fun e => by cases e)
      ·cases h
     ·cases h
    ·cases h
   ·cases h
  ·cases h
end Go.Lw
namespace Go.Lw
variable {P : Program} {N : Nat} [Inhabited (Tys P)]
theorem ayx {P : Program} {N : Nat} {c : Code} {Q Q' : Exit -> AS -> Prop} {s : AS} (h : AWP P N c Q s) (hq : ∀ e s, Q e s -> ∃ s', Wk s s' /\ Q' e s') : AWP P N c Q' s :=
 fun C m a w n hN hr => wpIn_mono (h C m a w n hN hr) fun e _ _ ⟨s', m', hQ, hr'⟩ => by
  obtain ⟨s2,hw,hQ'⟩ := hq e s' hQ
  obtain ⟨m2,hr2⟩ := hw C m' _ _ hr'
  exact ⟨s2,m2,hQ',hr2⟩
def dd {α : Type} : List Nat -> List (Nat × Option α) -> List (Nat × Option α)
  | _,[] => []
  | seen, (t, x) :: l => match awg t seen with
    | true => dd seen l
    | false => match x with
      | some v => (t,some v) :: dd (t :: seen) l
      | none => dd (t :: seen) l
theorem a00 {α : Type} : ∀ {l : List (Nat × Option α)} {seen : List Nat} {t : Nat} {x : α}, lk (dd seen l) t = some x -> t ∉ seen /\ lk l t = some x
 | [],seen,t,x,h => by cases h
 | (t', y) :: l, seen, t, x, h => by
  unfold dd at h
  rw [aac]
  split at h
  ·rename_i hm
   obtain ⟨h1,h2⟩ := a00 h
   refine ⟨h1,?_⟩
   rw [if_neg (fun (e : t = t') => h1 (by rw [e]; exact af4.1 hm))]; exact h2
  ·rename_i hm
   have hm' : t' ∉ seen := fun hh => by rw [af4.2 hh] at hm; cases hm
   split at h
   ·rw [aac] at h
    split at h
    ·rename_i e; cases h; subst e; exact ⟨hm',by rw [if_pos rfl]⟩
    ·rename_i e
     obtain ⟨h1,h2⟩ := a00 h
     rw [if_neg e]
     exact ⟨fun hh => h1 (mem_cons_of_mem _ hh),h2⟩
   ·obtain ⟨h1, h2⟩ := a00 h
    have hne : t ≠ t' := fun e => h1 (by rw [e]; exact mem_cons_self ..)
    rw [if_neg hne]
    exact ⟨fun hh => h1 (mem_cons_of_mem _ hh),h2⟩
theorem ar2 {s : AS} {sl : abf} {hp : Hp} (h1 : ∀ t x, lk sl t = some x -> lk s.sl t = some x) (h2 : ∀ k x, lk hp k = some x -> lk s.hp k = some x) : Wk s ⟨sl, hp⟩ :=
 fun C m a w hr => ⟨m,hr.weak (fun t x hx => ⟨x,h1 t x hx,.refl _⟩) (fun k x hx => ⟨x,h2 k x hx,.refl _⟩)⟩
def ddS (s : AS) : AS := ⟨dd [] s.sl,dd [] s.hp⟩
theorem bdg (s : AS) : Wk s (ddS s) := ar2 (fun t x h => (a00 h).2) (fun t x h => (a00 h).2)
def noK (k : Nat) : List Nat -> abf -> abf
  | _,[] => []
  | seen, (t, x) :: l => match awg t seen with
    | true => noK k seen l
    | false => match x with
      | some v => match awg k v.nm with
        | true => noK k (t :: seen) l
        | false => (t,some v) :: noK k (t :: seen) l
      | none => noK k (t :: seen) l
theorem avn {k : Nat} : ∀ {l : abf} {seen : List Nat} {t : Nat} {x : AV}, lk (noK k seen l) t = some x -> t ∉ seen /\ lk l t = some x
 | [],seen,t,x,h => by cases h
 | (t', y) :: l, seen, t, x, h => by
  unfold noK at h
  rw [aac]
  have rest : ∀ {l' : abf}, lk (noK k (t' :: seen) l) t = some x -> t ∉ seen /\ (if t = t' then y else lk l t) = some x := by
   intro _ h
   obtain ⟨h1,h2⟩ := avn h
   rw [if_neg (fun (e : t = t') => h1 (by rw [e]; exact mem_cons_self ..))]
   exact ⟨fun hh => h1 (mem_cons_of_mem _ hh),h2⟩
  split at h
  ·rename_i hm
   obtain ⟨h1,h2⟩ := avn h
   refine ⟨h1,?_⟩
   rw [if_neg (fun (e : t = t') => h1 (by rw [e]; exact af4.1 hm))]; exact h2
  ·rename_i hm
   have hm' : t' ∉ seen := fun hh => by rw [af4.2 hh] at hm; cases hm
   split at h
   ·split at h
    ·exact rest (l' := l) h
    ·rw [aac] at h
     split at h
     ·rename_i e; cases h; subst e; exact ⟨hm',by rw [if_pos rfl]⟩
     ·rename_i e
      obtain ⟨h1,h2⟩ := avn h
      rw [if_neg e]
      exact ⟨fun hh => h1 (mem_cons_of_mem _ hh),h2⟩
   ·exact rest (l' := l) h
def bd1 (s : AS) (k d : Nat) (y : Blk) : AS := ⟨ahy (AV.rn k d) s.sl,aon k d y s.hp⟩
def bb4 (s : AS) (av : List Nat) (d : Nat) : Option AS := match s.freshB d with
  | true => some s
  | false => match s.blk d with
    | some y => match s.freshB (nxt s av) with
      | true => some (bd1 s d (nxt s av) y)
      | false => none
    | none => some ⟨noK d [] s.sl,s.hp⟩
theorem a7l {s s' : AS} {av : List Nat} {d : Nat} (h : bb4 s av d = some s') : Wk s s' := by
 unfold bb4 at h
 split at h
 ·cases h; exact .refl _
 ·split at h
  ·rename_i y hy
   split at h
   ·rename_i hf; cases h; exact Wk.rekey hy hf
   ·cases h
  ·cases h; exact ar2 (fun t x h => (avn h).2) (fun _ _ h => h)
def bd5 (o : Oper) : Option Nat := match o.dst with
  | some d => match o.op with
    | .alloc _ => some d
    | .box _ _ => some d
    | .makeSlice _ _ _ => some d
    | .buildSlice _ 0 _ => some d
    | .slice _ _ _ _ (some _) => some d
    | .call ⟨.builtin .append,_,_⟩ => some d
    | _ => none
  | none => none
def a8v (av : List Nat) : List Oper -> AS -> Option AS
  | [],s => some s
  | o :: os, s => match bd5 o with
    | some d => match bb4 s av d with
      | some s' => a8v av os s'
      | none => none
    | none => a8v av os s
theorem ar4 {av : List Nat} : ∀ {os : List Oper} {s s' : AS}, a8v av os s = some s' -> Wk s s'
 | [],s,s',h => by cases h; exact .refl _
 | o :: os, s, s', h => by
  unfold a8v at h
  split at h
  ·split at h
   ·rename_i h1; exact (a7l h1).trans (ar4 h)
   ·cases h
  ·exact ar4 h
inductive RR where
  | ok (s : AS) (us : List Out)
  | need (k : Nat)
  | no
def nB {α : Type} : List α -> Bool
  | [] => true
  | _ => false
def bbw (E : Env P) (F : afv) (av fz : List Nat) (N : Nat) (R : List Oper) : List Oper -> AS -> List Out -> RR
  | [],s,us => .ok s us
  | o :: os, s, us => match opE E F av fz N R s o with
    | .ok u => match nB u.upd || azf s u with
      | true => match s.app o.dst u with
        | ⟨sl,hp⟩ => bbw E F av fz N R os ⟨sl,hp⟩ (us ++ [u])
      | false => .no
    | .need k => .need k
    | .no => .no
theorem azn {E : Env P} {F : afv} (hF : F.Ok P) {av fz : List Nat} {R : List Oper} : ∀ {os : List Oper} {s : AS} {us : List Out} {s' : AS} {us' : List Out}, bbw E F av fz N R os s us = .ok s' us' ->
  apo P N R.toArray os s us (fun s2 us2 => s2 = s' /\ us2 = us')
 | [],s,us,s',us',h => by cases h; exact ⟨rfl,rfl⟩
 | o :: os, s, us, s', us', h => by
  unfold bbw at h
  split at h
  ·rename_i u hu
   split at h
   ·rename_i hn
    refine ⟨u,a86 hF hu,?_,azn hF h⟩
    cases hu' : nB u.upd with
    | true =>
     intro k hk
     have : u.upd = []:=by cases hq : u.upd with | nil => rfl | cons a b => rw [hq] at hu'; cases hu'
     rw [this] at hk; cases hk
    | false => rw [hu'] at hn; exact ak4 hn
   ·cases h
  ·cases h
  ·cases h
structure Sys where
  code : Nat -> Nat -> List Nat -> Code -> AS -> Option (Exit × AS)
  fn : Nat -> List Nat -> FuncId -> List AV -> Hp -> Option (AV × Hp)
def trF (S : Sys) (base : Nat) : afv := fun av f xs H => match bdv base (H.map (·.1)) with
  | L => match S.fn (base + 100) av f (tA L xs) (tH L H) with
    | some (r,H') => some (rB L r,hB L H')
    | none => none
def isR (e : Exit) : Bool := match e with
  | .normal => true
  | _ => false
def bdr (s : AS) (k : Nat) : Option AS := match s.blk k with
  | some (.row sz es) => some ⟨ahy (AV.fz k sz es) s.sl,aex (AV.fz k sz es) k s.hp⟩
  | _ => none
theorem a7t {s s' : AS} {k : Nat} (h : bdr s k = some s') : Wk s s' := by
 unfold bdr at h
 split at h
 ·rename_i hk; cases h; exact Wk.freeze hk
 ·cases h
def a93 (E : Env P) (F : afv) (av : List Nat) (N : Nat) (A : List Oper) (d : Bool) : Nat -> List Nat -> AS -> Option AS
  | 0,_,_ => none
  | n + 1, fz, s0 => match bbw E F av fz N A A s0 [] with
    | .ok s' us => match d with
      | false => some s'
      | true => match chk A us s0 with
        | true => some s'
        | false => none
    | .need k => match bdr s0 k with
      | some ⟨sl,hp⟩ => a93 E F av N A d n fz ⟨sl,hp⟩
      | none => match awg k fz with
        | true => none
        | false => a93 E F av N A d n (k :: fz) s0
    | .no => none
theorem ar6 {E : Env P} {F : afv} (hF : F.Ok P) {av : List Nat} {id : Nat} {A : Array Oper} {d : Bool} (hnd : A.toList.all nd = true) : ∀ {n : Nat} {fz : List Nat} {s s1 : AS}, a93 E F av N A.toList d n fz s = some s1 ->
  AWP P N (.region id A d) (fun e' s' => e' = .normal /\ s' = s1) s
 | 0,fz,s,s1,h => by cases h
 | n + 1, fz, s, s1, h => by
  unfold a93 at h
  split at h
  ·rename_i s' us h1
   refine azx (Q := fun e' s' => e' = .normal /\ s' = s1) (k := []) hnd (fun _ => (default : Tys P).mix) (ain ?_ (azn hF h1))
   rintro s2 us2 ⟨hs,hu⟩
   rw [hs,hu]
   split at h
   ·obtain rfl := Option.some.inj h
    exact ⟨(fun e => by cases e),rfl,rfl⟩
   ·split at h
    ·rename_i hc
     obtain rfl := Option.some.inj h
     exact ⟨fun _ => hc,rfl,rfl⟩
    ·cases h
  ·split at h
   ·rename_i sl hp hf
    exact adr (a7t hf) (ar6 hF hnd h)
   ·split at h
    ·cases h
    ·exact ar6 hF hnd h
  ·cases h
def ap3 (E : Env P) (S : Sys) (N base : Nat) (av : List Nat) (c : Code) (s : AS) : Option (Exit × AS) := match c with
  | .skip => some (.normal,s)
  | .ret => some (.ret,s)
  | .exit id => some (.exit id,s)
  | .seq x y => match S.code N base av x s with
    | some (e, s1) => match isR e with
      | true => S.code N base av y s1
      | false => some (e,s1)
    | none => none
  | .block id c => match S.code N base av c s with
    | some (e, s1) => match e with
      | .exit id' => match Nat.beq id' id with
        | true => some (.normal,s1)
        | false => some (.exit id',s1)
      | e => some (e,s1)
    | none => none
  | .cond c x y => match rdC s c with
    | some (.v (.bool b)) => match b with
      | true => S.code N base av x s
      | false => S.code N base av y s
    | _ => none
  | .loop c => match S.code N base av c s with
    | some (e, s1) => match isR e with
      | true => match ddS s1 with
        | ⟨sl,hp⟩ => S.code N base av (.loop c) ⟨sl,hp⟩
      | false => some (e,s1)
    | none => none
  | .region id A d => match ayl A.toList with
    | true => match a8v av A.toList s with
      | some s0 => match a93 E (trF S base) av N A.toList d 20 [] s0 with
        | some s' => some (.normal,s')
        | none => none
      | none => none
    | false => none
  | _ => none
def a96 (st : Nat) : List Nat -> AS -> Option AS
  | [],s => some s
  | k :: ks, s => match s.blk k with
    | some y => match a6b s 100 st with
      | d => match s.freshB d with
        | true => a96 st ks (bd1 s k d y)
        | false => none
    | none => none
theorem asf {st : Nat} : ∀ {ks : List Nat} {s s' : AS}, a96 st ks s = some s' -> Wk s s'
 | [],s,s',h => by cases h; exact .refl _
 | k :: ks, s, s', h => by
  unfold a96 at h
  split at h
  ·rename_i y hy
   simp only at h
   split at h
   ·rename_i hf; exact (Wk.rekey (s := s) hy hf).trans (asf h)
   ·cases h
  ·cases h
def cnt : Nat -> List Nat -> List Nat
  | _,[] => []
  | n,_ :: l => n :: cnt (n + 1) l
def loc : List Nat -> List Nat
  | [] => []
  | k :: ks => match Nat.blt k 1000 with
    | true => k :: loc ks
    | false => loc ks
def a8n (sl : abf) : List Nat -> abf
  | [] => []
  | t :: ts => match lk sl t with
    | some x => (t,some x) :: a8n sl ts
    | none => a8n sl ts
theorem asg {sl : abf} : ∀ {ts : List Nat} {t : Nat} {x : AV}, lk (a8n sl ts) t = some x -> lk sl t = some x
 | [],t,x,h => by cases h
 | t' :: ts, t, x, h => by
  unfold a8n at h
  split at h
  ·rename_i y hy
   rw [aac] at h
   split at h
   ·rename_i e; cases h; rw [e]; exact hy
   ·exact asg h
  ·exact asg h
def rsT : List ResultVar -> List Nat
  | [] => []
  | r :: rs => (match r with
    | .tmp t => t
    | .cell t _ => t) :: rsT rs
def bbt (P : Program) [Inhabited (Tys P)] (rs : List ResultVar) (Hk : List Nat) (s : AS) : Option (AV × Hp) := match a4f P s rs with
  | some ys => some (aic ys,pkH s (awf s 300 (AV.nms ys ++ Hk) []))
  | none => none
theorem axd {rs : List ResultVar} {Hk : List Nat} {s : AS} {r : AV} {H' : Hp} (h : bbt P rs Hk s = some (r, H')) : ∃ xs, ResL P s rs xs /\ Fin s (aic xs) r H' := by
 unfold bbt at h
 split at h
 ·rename_i ys hy
  cases h
  exact ⟨ys,asi hy,.keep (fun k z hz => aqt hz)⟩
 ·cases h
def bb8 (P : Program) [Inhabited (Tys P)] (av : List Nat) (rs : List ResultVar) (Hk : List Nat) (s : AS) : Option (AV × Hp) := match awf s 300 (AV.nms ((a8n s.sl (rsT rs)).filterMap (·.2)) ++ Hk) [] with
  | K => match loc K with
    | [] => bbt P rs Hk s
    | k :: ks => match a96 700 (k :: ks) ⟨a8n s.sl (rsT rs), pkH s K⟩ with
      | some s2 => match a96 (mx 299 av + 1) (cnt 700 (k :: ks)) s2 with
        | some s3 => bbt P rs Hk s3
        | none => none
      | none => none
theorem a5o {av : List Nat} {rs : List ResultVar} {Hk : List Nat} {s : AS} {r : AV} {H' : Hp} (h : bb8 P av rs Hk s = some (r, H')) : ∃ s2, Wk s s2 /\ ∃ xs, ResL P s2 rs xs /\ Fin s2 (aic xs) r H' := by
 unfold bb8 at h
 simp only at h
 split at h
 ·exact ⟨s,.refl _,axd h⟩
 ·split at h
  ·rename_i s2 h2
   split at h
   ·rename_i s3 h3
    exact ⟨s3,((ar2 (fun t x => asg) (fun k x => aqt)).trans (asf h2)).trans (asf h3),axd h⟩
   ·cases h
  ·cases h
def a2z : Hp -> Bool
  | [] => true
  | (k,_) :: l => Nat.ble 1000 k && a2z l
theorem aty : ∀ {H : Hp} {k : Nat} {z : Blk}, a2z H = true -> lk H k = some z -> 1000 <= k
 | [],k,z,_,h => by cases h
 | (k', x) :: l, k, z, h0, h => by
  simp only [a2z,and_eq_true,Nat.ble_eq] at h0
  rw [aac] at h
  split at h
  ·rename_i e; rw [e]; exact h0.1
  ·exact aty h0.2 h
def fnS (E : Env P) (S : Sys) (base : Nat) (av : List Nat) (f : FuncId) (xs : List AV) (H : Hp) : Option (AV × Hp) := match E.fe f with
  | some fe => match Nat.beq fe.f f && a2z H with
    | true => match awq 0 xs with
      | some sl => match S.code fe.fn.ntmps base av fe.c ⟨sl, H⟩ with
        | some (e, s1) => match a0z e with
          | true => bb8 P av fe.rs (H.map (·.1)) s1
          | false => none
        | none => none
      | none => none
    | false => none
  | none => none
def ev (E : Env P) (n : Nat) : Sys := Nat.rec ⟨fun _ _ _ _ _ => none,fun _ _ _ _ _ => none⟩ (fun _ S => ⟨ap3 E S,fnS E S⟩) n
structure SysOk (P : Program) (S : Sys) : Prop where
  code : ∀ N base av c s e s1,S.code N base av c s = some (e,s1) -> AWP P N c (fun e' s' => e' = e /\ s' = s1) s
  fn : ∀ base av f xs H r H',S.fn base av f xs H = some (r,H') -> Con P f xs H r H'
theorem a92 {P : Program} {S : Sys} (h : SysOk P S) (base : Nat) : (trF S base).Ok P := by
 intro av f xs H r H' h1
 unfold trF at h1
 simp only at h1
 split at h1
 ·rename_i h2; cases h1; exact bdz (h.fn _ _ _ _ _ _ _ h2)
 ·cases h1
theorem ba0 {E : Env P} {S : Sys} (h : SysOk P S) {base : Nat} {av : List Nat} {f : FuncId} {xs : List AV} {H H' : Hp} {r : AV} (h1 : fnS E S base av f xs H = some (r, H')) : Con P f xs H r H' := by
 unfold fnS at h1
 split at h1
 ·rename_i fe hfe
  split at h1
  ·rename_i hc
   simp only [and_eq_true] at hc
   have hf := eq_of_beq_eq_true hc.1
   subst hf
   split at h1
   ·rename_i sl hsl
    cases akv hsl
    split at h1
    ·rename_i e s1 h2
     split at h1
     ·rename_i he
      refine a0p fe.hf fe.hb fe.hn fe.hrs rfl (fun k z hz => aty hc.2 hz) ?_
      refine ayx (h.code _ _ _ _ _ _ _ h2) ?_
      rintro e' s' ⟨he',hs'⟩
      rw [he',hs']
      obtain ⟨s2,hw,hx⟩ := a5o h1
      refine ⟨s2,hw,?_⟩
      cases e <;> first | exact hx | exact (nomatch he)
     ·cases h1
    ·cases h1
   ·cases h1
  ·cases h1
 ·cases h1
theorem a3f (E : Env P) : ∀ n m, m <= n -> SysOk P (ev E m)
 | 0, m, hm => by
  have : m = 0:=by omega
  subst this
  exact { code := (fun _ _ _ _ _ _ _ h => by cases h),fn := (fun _ _ _ _ _ _ _ h => by cases h) }
 | n + 1, m, hm => by
  by_cases hmn : m <= n
  ·exact a3f E n m hmn
  ·have : m = n + 1 := by omega
   subst this
   have ih := a3f E n n (le_refl _)
   refine ⟨?_,fun base av f xs H r H' h => ba0 ih h⟩
   intro N base av c s e s1 h
   change ap3 E (ev E n) N base av c s = some (e,s1) at h
   cases c with
   | skip => cases h; exact aun ⟨rfl,rfl⟩
   | ret => cases h; exact axz ⟨rfl,rfl⟩
   | exit id => cases h; exact aum ⟨rfl,rfl⟩
   | seq x y =>
    simp only [ap3] at h
    split at h
    ·rename_i e1 s2 h1
     refine ay0 fun K hK => acb (ih.code _ _ _ _ _ _ _ h1) ?_
     rintro e' s' ⟨he,hs⟩
     rw [he,hs]
     split at h
     ·rename_i hr
      cases e1 <;> first | exact hK _ (ih.code _ _ _ _ _ _ _ h) | exact (nomatch hr)
     ·rename_i hr
      obtain ⟨rfl,rfl⟩ := Prod.mk.inj (Option.some.inj h)
      cases e1 <;> first | exact ⟨rfl,rfl⟩ | exact (nomatch hr)
    ·cases h
   | block id c =>
    simp only [ap3] at h
    split at h
    ·rename_i e1 s2 h1
     refine arn (acb (ih.code _ _ _ _ _ _ _ h1) ?_)
     rintro e' s' ⟨he,hs⟩
     rw [he,hs]
     split at h
     ·rename_i id'
      show match Nat.beq id' id with | true => _ | false => _
      split at h
      ·rename_i hb
       obtain ⟨rfl,rfl⟩ := Prod.mk.inj (Option.some.inj h)
       simp only []; exact ⟨trivial,trivial⟩
      ·rename_i hb
       obtain ⟨rfl,rfl⟩ := Prod.mk.inj (Option.some.inj h)
       simp only []; exact ⟨trivial,trivial⟩
     ·rename_i hne
      obtain ⟨rfl,rfl⟩ := Prod.mk.inj (Option.some.inj h)
      cases e1 <;> first | exact ⟨rfl,rfl⟩ | exact absurd rfl (hne _)
    ·cases h
   | cond c x y =>
    simp only [ap3] at h
    split at h
    ·rename_i b hb
     split at h
     ·exact apf (aa3 hb) (fun _ => ih.code _ _ _ _ _ _ _ h) (fun e => by cases e)
     ·exact apf (aa3 hb) (fun e => by cases e) (fun _ => ih.code _ _ _ _ _ _ _ h)
    ·cases h
   | loop c =>
    refine ag1 (fun m s => m <= n + 1 /\ (ev E m).code N base av (.loop c) s = some (e,s1)) (n := n + 1) (.refl _) ⟨le_refl _,h⟩ ?_
    rintro m s ⟨hm,hI⟩ K hK
    cases m with
    | zero => cases hI
    | succ m =>
     change ap3 E (ev E m) N base av (.loop c) s = some (e,s1) at hI
     have ihm := a3f E n m (by omega)
     simp only [ap3] at hI
     split at hI
     ·rename_i e1 s2 h1
      refine acb (ihm.code _ _ _ _ _ _ _ h1) ?_
      rintro e' s' ⟨he,hs⟩
      rw [he,hs]
      split at hI
      ·rename_i hr
       cases e1 <;> first | exact hK _ _ m (bdg s2) ⟨by omega,hI⟩ (by omega) | exact (nomatch hr)
      ·rename_i hr
       obtain ⟨rfl,rfl⟩ := Prod.mk.inj (Option.some.inj hI)
       cases e1 <;> first | exact ⟨rfl,rfl⟩ | exact (nomatch hr)
     ·cases hI
   | region id A d =>
    simp only [ap3] at h
    split at h
    ·rename_i hnd
     split at h
     ·rename_i s0 h0
      refine adr (ar4 h0) ?_
      split at h
      ·rename_i s' h1
       obtain ⟨rfl,rfl⟩ := Prod.mk.inj (Option.some.inj h)
       exact ar6 (a92 ih base) (apc hnd) h1
      ·cases h
     ·cases h
    ·cases h
   | _ => cases h
theorem ayb (E : Env P) (n : Nat) {base : Nat} {av : List Nat} {f : FuncId} {xs : List AV} {H H' : Hp} {r : AV} (h : (ev E n).fn base av f xs H = some (r, H')) : Con P f xs H r H' :=
 (a3f E n n (le_refl _)).fn _ _ _ _ _ _ _ h
end Go.Lw
namespace Go.Lw
open Go.Proofs
abbrev fdC (l : Li) (known driven : List Bool) (r : List AV) : List AV := l.av.cells ++ (.lst 1 (known.map bl) :: .lst 1 (driven.map bl) :: r)
theorem azb (j : Jt) (b : Int) : FnC prog 448 [j.av, i64 b] (i64 (agc j b)) := by
 refine gF0 func448 ?_
 refine gC (fun ht6 => ?_) (fun ht6 => ?_)
 ·have h1 : b = j.a := akp ht6
  refine gE1 ?_
  unfold agc; rw [if_pos h1]
 ·have h1 : b ≠ j.a := ap4 ht6
  refine gC (fun ht12 => ?_) (fun ht12 => ?_)
  ·have h2 : b = j.b := akp ht12
   refine gE1 ?_
   unfold agc; rw [if_neg h1,if_pos h2]
  ·have h2 : b ≠ j.b := ap4 ht12
   refine gE1 ?_
   unfold agc; rw [if_neg h1,if_neg h2]; rfl
theorem awu (j : Jt) (kind body : Int) (f : FuncId) (pre caps : List AV) (p : Int -> Bool) (hp : 0 <= agc j body -> FnC prog f (pre ++ [i64 (agc j body)] ++ caps) (bl (p (agc j body)))) :
  FnC prog 447 [j.av,.iptr [i64 body],.iptr [i64 kind],.iptr [.cl f pre caps]] (bl (bbp kind body p j)) := by
 refine gF0 func447 ?_
 refine gc (azb j body) ?_
 refine gcG (fun h => (hp (bee h))) ?_
 refine gE1 ?_
 exact congrArg bl a9k
theorem ajk (bs : List Jt) (hl : bs.length <= 281474976710656) (f : FuncId) (pre caps : List AV) (ok : Nat -> Bool)
  (hf : ∀ (i : Nat) (b : Jt),bs[i]? = some b -> (∀ j,j < i -> ok j = true) -> FnC prog f (pre ++ [b.av] ++ caps) (bl (!ok i))) :
  FnC prog 446 [.lst 7 (bs.map Jt.av),.cl f pre caps] (i64 (ixI (ac1 bs.length ok))) := by
 refine gF0 func446 ?_
 refine gl ?_
 refine gL1 [0,1,7] [] (fun (i : Nat) => [(8,some (i64 i))]) (fun _ => []) (fun i => i <= bs.length /\ ∀ j,j < i -> ok j = true) (fun i => bs.length - i) 0 ⟨zero_le _,fun j h => by omega⟩ ?_
 rintro i ⟨hi,hj⟩ K1 hK1
 refine gC (fun ht9 => ?_) (fun ht9 => ?_)
 ·have hin := ac3 ht9
  obtain ⟨b,hb⟩ := aeg hin
  refine gi (aaq hb) ?_
  refine gc (hf i b hb hj) ?_
  refine gC (fun ht16 => ?_) (fun ht16 => ?_)
  ·have h2 := akq ht16
   refine gE1 ?_
   rw [aer hin hj h2]; rfl
  ·have h2 := akj ht16
   refine ga abn ?_
   exact gK1 hK1 (i + 1) ⟨hin,fun j h9 => by rcases lt_or_ge j i with g | g; exact hj j g; (have : j = i:=by omega); subst this; exact h2⟩
 ·have hin := abo hi ht9
  subst hin
  refine gE1 ?_
  rw [adx hj]; rfl
theorem aqu (l : Li) (hl : l.ok) (hli : liE l = 0) (Fd : List AV) (kind body : Int) (f : FuncId) (pre caps : List AV) (p : Int -> Bool)
  (hp : ∀ o : Int,0 <= o -> o < l.bodies.length -> FnC prog f (pre ++ [i64 o] ++ caps) (bl (p o))) :
  FnC prog 434 [.iptr (l.av.cells ++ Fd),i64 kind,i64 body,.cl f pre caps] (i64 (gJ l kind body p)) := by
 refine gF0 func434 ?_ (1,0)
 refine gW ((Wk.freezeB (k := 7) rfl rfl).trans <| (Wk.freezeB (k := 5) rfl rfl).trans <| (Wk.freezeB (k := 6) rfl rfl).trans <| Wk.o (sl := [(0,some (.iptr (l.av.cells ++ Fd))),(5,some (.iptr [i64 kind])),(6,some (.iptr [i64 body])),(7,some (.iptr [.cl f pre caps]))]) (hp := [])) ?_
 refine gc (Con.subA (.cons (.refl _) (.cons (a46 rfl) .nil)) (ajk l.joints hl.lj 447 [] [.iptr [i64 body],.iptr [i64 kind],.iptr [.cl f pre caps]] (fun i => !bbp kind body p (l.joints.getD i default)) (fun i b hb hj => by rw [Bool.not_not,abp hb]; exact awu b kind body f pre caps p (fun h => hp _ h (a31 hli hb body))))) ?_
 refine gE1 ?_
 rfl
theorem atg (l : Li) (known driven : List Bool) (r : List AV) (b : Int) (h0 : 0 <= b) (h1 : b < known.length) : FnC prog 444 [.iptr (fdC l known driven r), i64 b] (bl (kn known b)) := by
 obtain ⟨v,hv⟩ : ∃ v,known[b.toNat]? = some v := aeg (by omega)
 have ev : kn known b = v := abp hv
 refine gF0 func444 ?_
 refine gi (av6 (n := b.toNat) (by omega) hv) ?_
 refine gE1 ?_
 rw [ev]
theorem aj7 (l : Li) (hl : l.ok) (hli : liE l = 0) (known driven : List Bool) (hk : known.length = l.bodies.length) (r : List AV) (kind body : Int) :
  FnC prog 432 [.iptr (fdC l known driven r),i64 kind,i64 body] (i64 (gJ l kind body (kn known))) := by
 refine gF0 func432 ?_
 refine gc (aqu l hl hli _ kind body 444 [.iptr (fdC l known driven r)] [] (kn known) (fun o h0 h1 => atg l known driven r o h0 (by omega))) ?_
 refine gE1 ?_
 rfl
theorem a0y (o j : Int) : FnC prog 435 [i64 o, .iptr [i64 j]] (bl (decide (o = j))) := by
 refine gF0 func435 ?_
 refine gE1 ?_
 exact congrArg bl a0u
theorem a1y (l : Li) (known driven : List Bool) (hd : driven.length = known.length) (r : List AV) (b : Int) (h0 : 0 <= b) (h1 : b < known.length) :
  FnC prog 436 [.iptr (fdC l known driven r),i64 b] (bl (!kn known b && !kn driven b)) := by
 obtain ⟨v,hv⟩ : ∃ v,known[b.toNat]? = some v := aeg (by omega)
 have ev : kn known b = v := abp hv
 obtain ⟨u,hu⟩ : ∃ u,driven[b.toNat]? = some u := aeg (by omega)
 have eu : kn driven b = u := abp hu
 refine gF0 func436 ?_
 refine gi (av6 (n := b.toNat) (by omega) hv) ?_
 refine giG (fun _ => (av6 (n := b.toNat) (by omega) hu)) ?_
 refine gE1 ?_
 rw [ev,eu]; exact congrArg bl (ahd _ _)
end Go.Lw
namespace Go.Lw
open Go.Proofs
theorem awp (l : Li) (hl : l.ok) (hli : liE l = 0) (known driven : List Bool) (hk : known.length = l.bodies.length) (r : List AV) :
  FnC prog 401 [.iptr (fdC l known driven r)] (.tup [((driverG l known).getD default).av,bl (driverG l known).isSome]) := by
 have hld := hl.ld
 refine gF0 func401 ?_
 refine gl ?_
 refine gL1 [0,2,11,12] [2] (fun (i : Nat) => [(13,some (i64 i))]) (fun _ => []) (fun i => i <= l.drivers.length /\ ∀ j,j < i -> (!drHit l known j) = true) (fun i => l.drivers.length - i) 0 ⟨zero_le _,fun j h => by omega⟩ ?_
 rintro i ⟨hi,hj⟩ K1 hK1
 refine gC (fun ht14 => ?_) (fun ht14 => ?_)
 ·have hin := ac3 ht14
  obtain ⟨d,hd⟩ := aeg hin
  have hdd : l.drivers.getD i default = d := abp hd
  have hb := amm (ax0 hli hd)
  obtain ⟨v,hv⟩ : ∃ v,known[d.body.toNat]? = some v := aeg (by omega)
  have ev : kn known d.body = v := abp hv
  have ej : gJ l 0 d.body (kn known) = jointI l 0 d.body known := a6u hli (fun o _ _ => rfl)
  refine gi (aaq hd) ?_
  refine gi (av6 (n := d.body.toNat) (by omega) hv) ?_
  refine gD ?_
  refine gC (fun ht25 => ?_) (fun ht25 => ?_)
  ·have h2 : drHit l known i = false := by unfold drHit; rw [hdd, ev, ht25]; rfl
   refine ga abn ?_
   exact gK1 hK1 (i + 1) ⟨hin,fun k h9 => by rcases lt_or_ge k i with g | g; exact hj k g; (have : k = i:=by omega); subst this; rw [h2]; rfl⟩
  ·have hv0 : v = false := ht25
   refine gc (show FnC _ _ _ (i64 (jointI l 0 d.body known)) by rw [<- ej]; exact aj7 l hl hli known driven hk r 0 d.body) ?_
   refine gC (fun ht31 => ?_) (fun ht31 => ?_)
   ·have h2 : drHit l known i = true := by unfold drHit; rw [hdd, ev, hv0, decide_eq_true (bcr ht31)]; rfl
    have hg : driverG l known = some ⟨0,[d.body],[jointI l 0 d.body known],i⟩:=by unfold driverG; rw [aer hin hj (by rw [h2]; rfl),<- hdd]; rfl
    refine gE2 ?_
    rw [hg]; rfl
   ·have h2 : drHit l known i = false := by unfold drHit; rw [hdd, decide_eq_false (bda ht31), Bool.and_false]
    refine ga abn ?_
    exact gK1 hK1 (i + 1) ⟨hin,fun k h9 => by rcases lt_or_ge k i with g | g; exact hj k g; (have : k = i:=by omega); subst this; rw [h2]; rfl⟩
 ·have hin := abo hi ht14
  subst hin
  have hg : driverG l known = none:=by unfold driverG; rw [adx hj]; rfl
  refine gR ?_
  exact Fin.sub Fin.pure (by rw [hg]; exact Sub.tup (.cons ar8 (.cons (.refl _) .nil)))
theorem a01 (l : Li) (hli : liE l = 0) (known : List Bool) (hk : known.length = l.bodies.length) (r : List AV) (b : Nat) (h1 : b < l.bodies.length) :
  FnC prog 436 [.iptr (fdC l known (aao l) r),i64 b] (bl (freeB l known b)) := by
 have h := a1y l known (aao l) (by rw [afh,hk]) r b (by omega) (by omega)
 rw [a0m hli (by omega)] at h
 exact h
theorem att (l : Li) (hl : l.ok) (hli : liE l = 0) (known : List Bool) (hk : known.length = l.bodies.length) (r : List AV) (kind body : Int) :
  FnC prog 432 [.iptr (fdC l known (aao l) r),i64 kind,i64 body] (i64 (jointI l kind body known)) := by
 have h := aj7 l hl hli known (aao l) hk r kind body
 rw [a6u hli (fun o _ _ => rfl)] at h
 exact h
theorem aw0 (l : Li) (hl : l.ok) (hli : liE l = 0) (known : List Bool) (hk : known.length = l.bodies.length) (r : List AV) :
  FnC prog 403 [.iptr (fdC l known (aao l) r)] (.tup [((singleG l known).getD default).av,bl (singleG l known).isSome]) := by
 have h8 := (ad6 hli).2.2.2.1
 refine gF0 func403 ?_
 refine gl ?_
 refine gL1 [0,2,12,13] [2] (fun (i : Nat) => [(14,some (i64 i))]) (fun _ => []) (fun i => i <= l.bodies.length /\ ∀ j,j < i -> (!sgHit l known j) = true) (fun i => l.bodies.length - i) 0 ⟨zero_le _,fun j h => by omega⟩ ?_
 rintro i ⟨hi,hj⟩ K1 hK1
 refine gC (fun ht15 => ?_) (fun ht15 => ?_)
 ·have hin := ac3 ht15
  refine gc (a01 l hli known hk r i hin) ?_
  refine gC (fun ht20 => ?_) (fun ht20 => ?_)
  ·have h2 : sgHit l known i = false := by unfold sgHit; rw [akq ht20]; rfl
   refine ga abn ?_
   exact gK1 hK1 (i + 1) ⟨hin,fun k h9 => by rcases lt_or_ge k i with g | g; exact hj k g; (have : k = i:=by omega); subst this; rw [h2]; rfl⟩
  ·have hf := akj ht20
   refine gc (att l hl hli known hk r 0 i) ?_
   refine gc (att l hl hli known hk r 1 i) ?_
   refine gC (fun ht32 => ?_) (fun ht32 => ?_)
   ·have h2 : sgHit l known i = false := by unfold sgHit; rw [bcv ht32, Bool.and_false]
    refine ga abn ?_
    exact gK1 hK1 (i + 1) ⟨hin,fun k h9 => by rcases lt_or_ge k i with g | g; exact hj k g; (have : k = i:=by omega); subst this; rw [h2]; rfl⟩
   ·obtain ⟨p0, s0⟩ := bci ht32
    have s1 := (aeq (l := l) (kind := 1) (body := i) (oth := known)).2
    have h2 : sgHit l known i = true:=by unfold sgHit; rw [hf,decide_eq_true p0,decide_eq_true s0]; rfl
    obtain ⟨j,hjt⟩ : ∃ j,l.joints[(jointI l 1 i known).toNat]? = some j := aeg (by omega)
    have hjd : l.joints.getD (jointI l 1 i known).toNat default = j := abp hjt
    have hg : singleG l known = some (sgG l known i):=by unfold singleG; rw [aer hin hj (by rw [h2]; rfl),Option.map_some]
    refine gi (av6 (n := (jointI l 1 i known).toNat) (by omega) hjt) ?_
    refine gC (fun ht43 => ?_) (fun ht43 => ?_)
    ·have hji : j.a = i := akp ht43
     refine gE2 ?_
     rw [hg]; unfold sgG; rw [hjd]; simp only [Option.getD_some,if_pos hji]; rfl
    ·have hji : j.a ≠ i := ap4 ht43
     refine gE2 ?_
     rw [hg]; unfold sgG; rw [hjd]; simp only [Option.getD_some,if_neg hji]; rfl
 ·have hin := abo hi ht15
  subst hin
  have hg : singleG l known = none:=by unfold singleG; rw [adx hj]; rfl
  refine gR ?_
  exact Fin.sub Fin.pure (by rw [hg]; exact Sub.tup (.cons ar8 (.cons (.refl _) .nil)))
theorem axu (Fd : List AV) : FnC prog 433 [.iptr Fd] (.fn 445 [.iptr [.iptr Fd]]) := by
 refine gF0 func433 ?_ (1,0)
 refine gW ((Wk.freezeB (k := 1) rfl rfl).trans <| Wk.o (sl := [(1,some (.iptr [.iptr Fd]))]) (hp := [])) ?_
 refine gE1 ?_
 rfl
end Go.Lw
namespace Go.Lw
open Go.Proofs
def bbz : Code -> Option (Array Tmp × Code × Code)
  | .rangeFunc _ ps x y => some (ps,x,y)
  | .seq a b => match bbz a with
    | some r => some r
    | none => bbz b
  | .block _ c => bbz c
  | _ => none
def rgD (n : Nat) (o : Option Code) : LpD := match o with
  | some c => match bbz c with
    | some (ps,x,y) => ⟨ps,x,y,n⟩
    | none => ⟨#[],.skip,.skip,0⟩
  | none => ⟨#[],.skip,.skip,0⟩
def pb0 (D : LpD) (Fd : List AV) (h : Bool) : Blk := .loop D (match h with | true => .done | false => .ready) (match h with | true => some .ret | false => none) [(1,some (.iptr [.iptr Fd])),(2,some (.ptr 1001 0)),(3,some (.ptr 1002 0))]
def pb1 (g : Gr) : Blk := .box [i64 g.kind,.lst 1 (g.bodies.map i64),.lst 1 (g.joints.map i64),i64 g.driver]
def pb2 (h : Bool) : Blk := .box [bl h]
def afs (D : LpD) (Fd : List AV) (h : Bool) (g : Gr) : Hp := [(1000,some (pb0 D Fd h)),(1001,some (pb1 g)),(1002,some (pb2 h))]
theorem a4o {D : LpD} {Fd : List AV} {h : Bool} {g : Gr} {k : Nat} {z : Blk} (hz : lk (afs D Fd h g) k = some z) : 1000 <= k := by
 unfold afs at hz
 simp only [aac] at hz
 split at hz
 ·omega
 ·split at hz
  ·omega
  ·split at hz
   ·omega
   ·cases hz
theorem a3s {D : LpD} {Fd : List AV} {s : AS} (hs : ∀ k z, lk (afs D Fd false default) k = some z -> s.blk k = some z) :
  ∀ k ∈ (afs D Fd false default ++ aim (afs D Fd false default)).map (·.1),k ∈ (afs D Fd false default).map (·.1) /\ lk (afs D Fd false default ++ aim (afs D Fd false default)) k = s.blk k := by
 intro k hk
 have hk' : k = 1000 \/ k = 1001 \/ k = 1002 := by
  simp [afs,aim] at hk
  omega
 rcases hk' with rfl | rfl | rfl
 ·exact ⟨by simp [afs],(hs _ _ rfl).symm⟩
 ·exact ⟨by simp [afs],(hs _ _ rfl).symm⟩
 ·exact ⟨by simp [afs],(hs _ _ rfl).symm⟩
theorem azp {l : Li} {known : List Bool} {i k : Nat} (h : cond (freeB l known i) (freeB l known k) false = false) : prHit l known i k = false := by
 rw [ahd] at h
 unfold prHit
 rw [h]; rfl
theorem bcy {H R : Hp} {k : Nat} {z : Blk} (h : lk H k = some z) : lk (H ++ R) k = some z:=by rw [acg,if_pos (aay h)]; exact h
theorem fr1 {a b : Bool} (h : cond a b false = true) : a = true:=by cases a <;> simp_all
theorem fr2 {a b : Bool} (h : cond a b false = true) : b = true:=by cases a <;> simp_all
theorem awr (D : LpD) (l : Li) (hl : l.ok) (hli : liE l = 0) (known : List Bool) (hk : known.length = l.bodies.length) (r : List AV)
  (hy : ∀ i k : Nat, i < k -> k < l.bodies.length -> freeB l known i = true -> freeB l known k = true ->
   bbv prog 1000 [i64 i,i64 k] (afs D (fdC l known (aao l) r) false default) (bl (!prHit l known i k)) (afs D (fdC l known (aao l) r) (prHit l known i k) (cond (prHit l known i k) (prG l known i k) default))) :
  Con prog 445 [.yl 1000,.iptr [.iptr (fdC l known (aao l) r)]] (afs D (fdC l known (aao l) r) false default) (.tup []) (afs D (fdC l known (aao l) r) (pairG l known).isSome ((pairG l known).getD default)) := by
 have h8 := (ad6 hli).2.2.2.1
 refine gF func445 (fun k z h => a4o h) ?_
 refine gl ?_
 refine gL1 [0,1,10] [1000,1001,1002] (fun (i : Nat) => [(11,some (i64 i))]) (fun _ => []) (fun i => i <= l.bodies.length /\ ∀ j,j < i -> (prAt l known j).isNone = true) (fun i => l.bodies.length - i) 0 ⟨zero_le _,fun j h => by omega⟩ ?_
 rintro i ⟨hi,hj⟩ K1 hK1
 refine gC (fun ht12 => ?_) (fun ht12 => ?_)
 ·have hin := ac3 ht12
  refine ga abn ?_
  refine gL1 [0,1,3,10,11] [] (fun (k : Nat) => [(4,some (i64 (i + 1 + k : Nat)))]) (fun _ => [(1000,some (pb0 D (fdC l known (aao l) r) false)),(1001,some (pb1 default)),(1002,some (pb2 false))]) (fun k => i + 1 + k <= l.bodies.length /\ ∀ j,j < k -> (!prHit l known i (i + 1 + j)) = true) (fun k => l.bodies.length - k) 0 ⟨by omega,fun j h => by omega⟩ ?_
  rintro k ⟨hkl,hkj⟩ K2 hK2
  refine gl ?_
  refine gC (fun ht23 => ?_) (fun ht23 => ?_)
  ·have hkn : i + 1 + k < l.bodies.length := ac3 ht23
   refine gc (a01 l hli known hk r i hin) ?_
   refine gcG (fun _ => (a01 l hli known hk r (i + 1 + k) hkn)) ?_
   refine gs (ats rfl rfl rfl (by intro hb; have h0 : prHit l known i (i + 1 + k) = false := azp (by simpa using hb); simp only [h0,cond_false]; exact a3s (by intro k z h; exact h)) (fun hb => a7x (k := 1000) (.opt rfl (by rw [hb]; rfl)) (hy i (i + 1 + k) (by omega) hkn (fr1 hb) (fr2 hb)) (.cons (.opt rfl (by rw [hb]; rfl)) (.cons (.opt rfl (by rw [hb]; rfl)) .nil)) (by intro k z h; exact h) rfl rfl)) ?_
   refine gC (fun ht40 => ?_) (fun ht40 => ?_)
   ·have h2 : prHit l known i (i + 1 + k) = true := by have h9 := fr2 ht40; rw [Bool.not_not] at h9; exact h9
    have hat : prAt l known i = some (i + 1 + k):=by unfold prAt; rw [aer (by omega) hkj (by rw [h2]; rfl),Option.map_some]; congr 1; omega
    have hg : pairG l known = some (prG l known i (i + 1 + k)):=by unfold pairG; rw [aer hin hj (by rw [hat]; rfl),Option.map_some,hat]
    refine gR ?_
    simp only [hg,h2,Option.isSome_some,Option.getD_some,cond_true]
    exact Fin.keep (fun k z h => bcy h)
   ·have h2 : prHit l known i (i + 1 + k) = false := by cases hc : cond (freeB l known i) (freeB l known ((i + 1 + k : Nat) : Int)) false with | false => exact azp hc | true => rw [hc, Bool.not_not] at ht40; exact ht40
    refine ga abn ?_
    exact gK1 hK2 (k + 1) ⟨by omega,fun j h9 => by rcases lt_or_ge j k with g | g; exact hkj j g; (have : j = k:=by omega); subst this; rw [h2]; rfl⟩ (hw := Wk.of abv (.cons rfl (BlkSub.of (by rw [h2])) (.cons rfl (BlkSub.of (by rw [h2]; rfl)) (.cons rfl (BlkSub.of (by rw [h2])) .nil))))
  ·have hkn : ¬ i + 1 + k < l.bodies.length := fun h => by have h1 := a9y ht23; omega
   have hat : prAt l known i = none:=by unfold prAt; rw [show l.bodies.length - (i + 1) = k by omega,adx hkj]; rfl
   refine ga abn ?_
   exact gK1 hK1 (i + 1) ⟨hin,fun j h9 => by rcases lt_or_ge j i with g | g; exact hj j g; (have : j = i:=by omega); subst this; rw [hat]; rfl⟩
 ·have hin := abo hi ht12
  have hg : pairG l known = none:=by unfold pairG; rw [<- hin,adx hj]; rfl
  refine gR ?_
  simp only [hg,Option.isSome_none,Option.getD_none]
  exact Fin.keep (fun k z h => h)
end Go.Lw
namespace Go.Lw
open Go.Proofs
theorem gZ {P : Program} {N : Nat} {Q : Exit -> AS -> Prop} {c : Code} {s : AS} (h : Gd P N Q (.code c [] s)) : AWP P N c Q s := h
theorem ar9 {P : Program} {N : Nat} {Q : Exit -> AS -> Prop} {c : Code} {s s' : AS} (hw : Wk s s') (h : aw4 P N c Q s') : aw4 P N c Q s := by
 intro C m a w n hro hN hr
 obtain ⟨m',hr'⟩ := hw C m a w hr
 exact h C m' a w n hro hN hr'
def swp (k : Nat) : Nat := bif Nat.beq k 1000 then 900 else bif Nat.beq k 900 then 1000 else bif Nat.beq k 1001 then 2 else bif Nat.beq k 2 then 1001 else bif Nat.beq k 1002 then 3 else bif Nat.beq k 3 then 1002 else k
theorem nb {a b : Nat} (h : ¬ a = b) : Nat.beq a b = false := by
 cases h1 : Nat.beq a b
 ·rfl
 ·exact absurd (eq_of_beq_eq_true h1) h
theorem a7c (k : Nat) : swp (swp k) = k := by
 by_cases h1 : k = 1000
 ·subst h1; rfl
 by_cases h2 : k = 900
 ·subst h2; rfl
 by_cases h3 : k = 1001
 ·subst h3; rfl
 by_cases h4 : k = 2
 ·subst h4; rfl
 by_cases h5 : k = 1002
 ·subst h5; rfl
 by_cases h6 : k = 3
 ·subst h6; rfl
 have e : swp k = k:=by simp only [swp,nb h1,nb h2,nb h3,nb h4,nb h5,nb h6,cond_false]
 rw [e,e]
theorem a33 (l : Li) (hl : l.ok) (hli : liE l = 0) (known : List Bool) (hk : known.length = l.bodies.length) (r : List AV) :
  FnC prog 402 [.iptr (fdC l known (aao l) r)] (.tup [((pairG l known).getD default).av,bl (pairG l known).isSome]) := by
 refine axv (rs := Tryz.f402.results.toList) func402 rfl rfl (by simp) rfl (fun k z h => by cases h) ?_
 refine aoj (gZ (go ?_))
 refine ar9 (s' := ⟨[(1,some (.iptr [.iptr (fdC l known (aao l) r)])),(2,some (.ptr 2 0)),(3,some (.ptr 3 0))],[(2,some (pb1 default)),(3,some (pb2 false))]⟩) ((Wk.freezeB (k := 1) rfl rfl).trans (Wk.of (.cons rfl (.refl _) (.cons rfl (.refl _) (.cons rfl (.refl _) .nil))) (.cons rfl (BlkSub.boxL (.cons (.refl _) (.cons (.nil _ _ _) (.cons (.nil _ _ _) (.cons (.refl _) .nil)))) rfl) (.cons rfl (.refl _) .nil)))) ?_
 refine a1a ?_
 refine aoj (gZ (go ?_))
 refine gc (axu (fdC l known (aao l) r)) ?_
 refine av1 ?_
 have hy : ∀ i k : Nat, i < k -> k < l.bodies.length -> freeB l known i = true -> freeB l known k = true ->
   bbv prog 1000 [i64 i,i64 k] (afs (rgD Tryz.f402.ntmps Tryz.f402.body) (fdC l known (aao l) r) false default) (bl (!prHit l known i k)) (afs (rgD Tryz.f402.ntmps Tryz.f402.body) (fdC l known (aao l) r) (prHit l known i k) (cond (prHit l known i k) (prG l known i k) default)) := by
  intro i k hik hkn hfi hfk
  refine a6e (k := 1000) (fun k z h => a4o h) rfl rfl (by intro p hp; have h9 : p ∈ [11,12] := hp; have h8 : p = 11 \/ p = 12 := (by simpa using h9); show p < 42; rcases h8 with h7 | h7 <;> (rw [h7]; decide)) ?_
  refine gZ (go ?_)
  refine ⟨rfl,_,_,rfl,?_⟩
  have hJ : gJ l 0 i (fun o => decide (o = (k : Int))) = jointI l 0 i (afn l.bodies.length k) := a6u hli (fun o h0 h1 => (a7w h0 (by omega) (by omega)).symm)
  refine gZ (go ?_)
  refine gc (att l hl hli known hk r 0 i) ?_
  refine gc (att l hl hli known hk r 0 k) ?_
  refine gD ?_ (5,0)
  refine gW (Wk.freezeB (k := 5) rfl rfl) ?_
  refine gc (r := i64 (jointI l 0 i (afn l.bodies.length k))) (by rw [<- hJ]; exact Con.subA (.cons (.refl _) (.cons (.refl _) (.cons (.refl _) (.cons (a46 rfl) .nil)))) (aqu l hl hli _ 0 i 435 [] [.iptr [i64 k]] (fun o => decide (o = (k : Int))) (fun o h0 h1 => a0y o k))) ?_
  refine gC (fun ht => ?_) (fun ht => ?_)
  ·have h2 : prHit l known i k = true := by unfold prHit; rw [hfi, hfk]; exact (a1n.symm.trans ht)
   rw [h2]
   exact ⟨_,_,rfl,Fin.keep (by intro q z h; simp only [afs,aac] at h; split at h; (subst_vars; exact h); split at h; (subst_vars; exact h); split at h; (subst_vars; exact h); cases h)⟩
  ·have h2 : prHit l known i k = false := by unfold prHit; rw [hfi, hfk]; exact (a1n.symm.trans ht)
   rw [h2]
   exact ⟨_,_,rfl,Fin.keep (by intro q z h; simp only [afs,aac] at h; split at h; (subst_vars; exact h); split at h; (subst_vars; exact h); split at h; (subst_vars; exact h); cases h)⟩
 have hcon := Con.pm a7c (awr _ l hl hli known hk r hy)
 cases hg : pairG l known with
 | none =>
  rw [hg] at hcon
  refine ann (k := 900) (sl0 := [(1,some (.iptr [.iptr (fdC l known (aao l) r)])),(2,some (.ptr 2 0)),(3,some (.ptr 3 0))]) (.tmp rfl) (by intro t x h; simp only [aac] at h; split at h; (subst_vars; exact h); split at h; (subst_vars; exact h); split at h; (subst_vars; exact h); cases h) rfl rfl hcon (fun k' z h => h) rfl rfl rfl rfl (by intro h; cases h) (.inl ⟨rfl,?_⟩)
  refine aoj (gZ (go ?_))
  refine AWP.out (gZ (go ?_))
  refine gR ?_
  exact Fin.sub Fin.pure (Sub.tup (.cons ar8 (.cons (.refl _) .nil)))
 | some g =>
  rw [hg] at hcon
  refine ann (k := 900) (sl0 := [(1,some (.iptr [.iptr (fdC l known (aao l) r)])),(2,some (.ptr 2 0)),(3,some (.ptr 3 0))]) (.tmp rfl) (by intro t x h; simp only [aac] at h; split at h; (subst_vars; exact h); split at h; (subst_vars; exact h); split at h; (subst_vars; exact h); cases h) rfl rfl hcon (fun k' z h => h) rfl rfl rfl rfl (by intro h; cases h) (.inr ⟨rfl,?_⟩)
  exact (gE2 (P := prog) (N := Tryz.f402.ntmps) (e := .ret) rfl)
end Go.Lw
namespace Go.Lw
open Go.Proofs
theorem asb {α : Type} {o : Option α} (h : o.isSome = true) : ∃ x,o = some x:=by cases o <;> simp_all
theorem asv {α : Type} {o : Option α} (h : o.isSome = false) : o = none:=by cases o <;> simp_all
theorem a2a (l : Li) (hl : l.ok) (hli : liE l = 0) (known : List Bool) (hk : known.length = l.bodies.length) (r : List AV) :
  FnC prog 348 [.iptr (fdC l known (aao l) r)] (.tup [((nextG l known).getD default).av,bl (nextG l known).isSome]) := by
 refine gF0 func348 ?_
 refine gc (awp l hl hli known (aao l) hk r) ?_
 refine gC (fun ht13 => ?_) (fun ht13 => ?_)
 ·obtain ⟨g, hg⟩ := asb ht13
  refine gE2 ?_
  unfold nextG; rw [hg]; rfl
 ·have hg := asv ht13
  refine gc (a33 l hl hli known hk r) ?_
  refine gC (fun ht20 => ?_) (fun ht20 => ?_)
  ·obtain ⟨g, hg2⟩ := asb ht20
   refine gE2 ?_
   unfold nextG; rw [hg,hg2]; rfl
  ·have hg2 := asv ht20
   refine gc (aw0 l hl hli known hk r) ?_
   refine gE2 ?_
   unfold nextG; rw [hg,hg2]; rfl
end Go.Lw
namespace Go.Lw
variable {P : Program} {N : Nat} {R : Array Oper} {s : AS}
theorem atc {d : Nat} {x : Operand} {n : Nat} {z : Value} {T E t : TypeId} {ti te : TI} {pos : String} {after : Array Edge} (hx : Ev s x (.v (.int .i64 n)))
    (hT : aae P T = some ti) (hk : ti.k = .slice E) (hE : aae P E = some te) (hz : te.zero = [z]) (hz1 : z.oneCell' = true) (hs : Nat.beq te.size 1 = true) (hbb : Nat.blt 0 te.bytes = true)
    (hb : (n : Int) * te.bytes <= 281474976710656) (hN : Nat.blt d N = true) :
    Step P N R s ⟨some d, .makeSlice T x x, t, pos, after, none⟩
      ⟨some (.ms d 1 0 n),[(d,some (.vec (List.replicate n z)))],aah x,[]⟩ :=
  ai1 rfl rfl hN (by simp) fun s' hag hfr C m a w hr => by
    have hxv := akb hr (hx.agree hag (fun _ h => h))
    have hs := eq_of_beq_eq_true hs
    rw [Nat.blt_eq] at hbb
    obtain ⟨d2,h3,h4,-,-⟩ := abd hT w
    obtain rfl := ab0 (h4.trans hk)
    obtain ⟨zv,h5,h6⟩ := aih hE w
    obtain ⟨ie,h7,h8,-⟩ := aka hE w
    have h6' : zv.cells.toList = [z] := h6.trans hz
    have hzc : zv.cells = #[z]:=by rw [<- Array.toArray_toList (xs := zv.cells),h6']
    have hnb : (n : Int) <= 281474976710656 := by
      have : (n : Int) * 1 <= n * te.bytes := Int.mul_le_mul_of_nonneg_left (by omega) (by omega)
      omega
    have hw1 : IntKind.i64.wrap (n : Int) = n := IntWalk.i64_in n (by omega)
    obtain ⟨zero,hzero⟩ : ∃ zero : Array Value,zero = (if n * te.size = 0 then #[] else zv.cells) := ⟨_,rfl⟩
    refine ⟨.slice (some ⟨w.heap.size,0,none⟩) n n,(Array.range (n * te.size)).map (zero[· % zero.size]!),E,w.drawn,?_,?_,?_,?_⟩
    · have hmk : (Instr.makeSlice T (.int .i64 n) (.int .i64 n)).run P w =
          .ok (.slice (some ⟨w.heap.size,0,none⟩) n n) { w with heap := w.heap.push (.cells ((Array.range (n * te.size)).map (zero[· % zero.size]!)) E) } := by
        have hc : ¬ (((n : Int) < 0 \/ 281474976710656 < (ie.bytes : Int) * n) \/ (n : Int) < 0) := by
          rw [h8,Int.mul_comm]; omega
        simp only [Instr.makeSlice,Sem.run_bind,h3,Result.andThen_ok,asInt,asIntOf,Sem.run_pure,h7,hw1]
        rw [if_neg (by simpa using hc)]
        simp only [Sem.run_bind,run_askRoom,Result.andThen_ok,aa7 hE,Int.toNat_natCast]
        by_cases h0 : n * te.size = 0
        · rw [if_pos h0] at hzero ⊢
          subst hzero
          simp only [Sem.run_bind,Sem.run_pure,Result.andThen_ok,newRow,run_newObj]
        · rw [if_neg h0] at hzero ⊢
          subst hzero
          simp only [Sem.run_bind,Sem.run_pure,Result.andThen_ok,h5,newRow,run_newObj]
      simp only [execOp,hxv,Sem.run_bind,hmk,Result.andThen_ok,Sem.run_pure]
    · exact fun h => h
    · intro g S m' w' hg hS hm hw
      refine .vec hw ?_ (fun v hv => by rw [List.eq_of_mem_replicate hv]; exact hz1)
      apply List.ext_getElem?
      intro j
      rw [Array.getElem?_toList,List.getElem?_replicate]
      by_cases hj : j < n
      · have hpos : ¬ n * te.size = 0 := by rw [hs]; omega
        rw [if_neg hpos,hzc] at hzero
        subst hzero
        rw [if_pos hj]
        simp only [Array.getElem?_map,Array.getElem?_range,show j < n * te.size by rw [hs]; omega,if_true,Option.map_some,Option.some.injEq]
        simp [Nat.mod_one]
      · rw [if_neg hj,Array.getElem?_eq_none (by simp [hs]; omega)]
    · intro g S m' hm hS
      have := Rep.ms (g := g) (S := S) (m := m') (k := d) (sz := 1) (off := 0) (len := n) (cap := n) hm (le_refl _) (by simpa [hs] using hS)
      simpa using this
theorem aoe {x y : Operand} {k i : Nat} {vs : List Value} {v : Value} {T t : TypeId} {ti : TI} {pos : String} {after : Array Edge}
  (hx : Ev s x (.eptr k 1 i 0)) (hk : s.blk k = some (.vec vs)) (hi : i < vs.length) (hy : Ev s y (.v v)) (hv : v.oneCell' = true) (hT : aae P T = some ti) (hsz : Nat.beq ti.size 1 = true) :
  Step P N R s ⟨none,.store T x y,t,pos,after,none⟩ ⟨none,[(k,some (.vec (vs.set i v)))],aah x ++ aah y,[k]⟩ :=
 ajf rfl rfl (by simp) hk fun s' hag C m a w hr => by
  have hsz := eq_of_beq_eq_true hsz
  obtain ⟨b,hm,hxv⟩ := ail hr (hx.agree hag (fun _ h => List.mem_append.2 (.inl h)))
  have hyv := akb hr (hy.agree hag (fun _ h => List.mem_append.2 (.inr h)))
  have hb := hr.heap.blk k _ ((hag.2 k (by simp)).trans hk)
  rw [hm] at hb
  cases hb with
  | @vec _ _ c t2 hw hc h1 =>
   have hcs : c.size = vs.length:=by rw [<- hc]; simp
   have hvc : v.cells = #[v]:=by cases v <;> simp_all [Value.cells,Value.oneCell']
   refine ⟨b,c,(over c.toList i v.cells.toList).toArray,t2,hm,hw,?_,?_,?_⟩
   ·simp [over,hvc]; omega
   ·have hrun := agt (P := P) (off := i) (v := v) hT hw (by rw [hvc, hsz]; rfl) (by omega) (by rw [hvc]; simpa using hv)
    simp [execOp,Instr.storeAt,hxv,Instr.sureAddr,hyv,hrun]
   ·intro g S w' hg hS hw'
    refine .vec hw' ?_ (fun u hu => ?_)
    ·rw [hc, hvc]
     unfold over
     rw [List.set_eq_take_append_cons_drop,if_pos hi]
     simp
    ·rcases List.mem_or_eq_of_mem_set hu with h9 | h9
     ·exact h1 u h9
     ·rw [h9]; exact hv
inductive Lent (H : Hp) (hid : List Nat) : AV -> AV -> Prop
  | same {x : AV} (h : x.nm = []) : Lent H hid x x
  | ms {k off len : Nat} {vs : List Value} (hk : lk H k = some (.vec vs)) (hh : k ∉ hid) (hl : off + len <= vs.length) (hm : vs.length <= ab9) : Lent H hid (.ms k 1 off len) (.lst 1 (((vs.drop off).take len).map .v))
theorem ba1 {g : Nat -> Array Value -> Prop} {S : Nat -> Nat -> Prop} {m : Nat -> Option Nat} {u y : Value} (h : Rep g S m u (.v y)) : u = y:=by cases h; rfl
theorem ao8 {m : Nat -> Option Nat} {b : Nat} : ¬ Own [] m b:=by rintro ⟨k,x,h,_⟩; cases h
def a8h (ext : Nat -> Prop) (H : Hp) (hid : List Nat) (m : Nat -> Option Nat) (b : Nat) : Prop := ext b \/ ∃ k z,k ∈ hid /\ lk H k = some z /\ m k = some b
theorem a5g {ext : Nat -> Prop} {H : Hp} {hid : List Nat} {m m2 : Nat -> Option Nat} {w : World} {b : Nat} {cs : Array Value} (h : Im ext H m w b cs) : Im (a8h ext H hid m) [] m2 w b cs :=
 ⟨fun h' => h'.elim h.1 (fun ⟨k,z,_,hz,hb⟩ => h.2.1 ⟨k,z,hz,hb⟩),ao8,h.2.2⟩
theorem axw {ext : Nat -> Prop} {H : Hp} {hid : List Nat} {m : Nat -> Option Nat} {w : World} (hh : HeapRel ext H m w) {k b : Nat} {z : Blk} (hk : lk H k = some z) (hb : m k = some b) (hn : k ∉ hid) : ¬ a8h ext H hid m b := by
 rintro (h | ⟨k',z',h1,h2,h3⟩)
 ·exact (hh.sep k z b hk hb).1 h
 ·have := hh.inj k k' z z' b hk h2 hb h3
  subst this; exact hn h1
theorem Lent.rep {ext : Nat -> Prop} {H : Hp} {hid : List Nat} {m : Nat -> Option Nat} {w : World} (hh : HeapRel ext H m w) {x x' : AV} (h : Lent H hid x x') :
  ∀ {v : Value},Rep (Im ext H m w) (Sz w) m v x -> ∀ m2 : Nat -> Option Nat,Rep (Im (a8h ext H hid m) [] m w) (Sz w) m2 v x' := by
 cases h with
 | same hn => intro v hv m2; exact (ai6 hn hv).mono (fun _ _ h => a5g h) (fun _ _ h => h) (fun _ _ _ h => h)
 | @ms k off len vs hk hnh hl hm =>
  intro v hr m2
  have hb := hh.blk k _ hk
  cases hr with
  | ms0 a => simp only [List.take_zero]; exact .lst0 _ _ _
  | @ms _ _ _ _ _ cap b hmk hc hS =>
   rw [hmk] at hb
   cases hb with
   | @vec _ _ c t hw hcv h1 =>
    have hcs : c.size = vs.length:=by rw [<- hcv]; simp
    have hlen : (((vs.drop off).take len).map AV.v).length = len:=by rw [length_map,length_take,List.length_drop]; omega
    have he' : ∀ (i : Nat) (e : AV), (((vs.drop off).take len).map AV.v)[i]? = some e -> ∃ u, e = .v u /\ c[off + i]? = some u /\ u ∈ vs := by
     intro i e he
     rw [getElem?_map,map_eq_some_iff] at he
     obtain ⟨u,he,rfl⟩ := he
     rw [getElem?_take] at he
     split at he
     ·rw [getElem?_drop] at he
      exact ⟨u,rfl,by rw [<- Array.getElem?_toList,hcv]; exact he,mem_of_getElem? he⟩
     ·cases he
    have := Rep.lst (g := Im (a8h ext H hid m) [] m w) (S := Sz w) (m := m2) (b := b) (off := off) (cap := cap) (sz := 1) (es := ((vs.drop off).take len).map AV.v) (cs := c) (fun i j => c.getD (off + i) undef)
     ⟨axw hh hk hmk hnh,ao8,t,(0,0),hw⟩ (by omega) (by omega) ?_ ?_ ?_ ?_
    ·rw [hlen] at this; simpa using this
    ·intro i e he
     obtain ⟨u,rfl,_⟩ := he' i e he; rfl
    ·intro i j e x he hx
     obtain ⟨u,rfl,_,hm⟩ := he' i e he
     cases j with
     | zero => cases hx; exact h1 u hm
     | succ j => cases hx
    ·intro i j e x he hx
     obtain ⟨u,rfl,hu,_⟩ := he' i e he
     cases j with
     | zero => rw [Nat.mul_one,Nat.add_zero,getD_eq_getD_getElem?,hu]; rfl
     | succ j => cases hx
    ·intro i j e x he hx
     obtain ⟨u,rfl,hu,_⟩ := he' i e he
     cases j with
     | zero => cases hx; rw [getD_eq_getD_getElem?,hu]; exact .v _
     | succ j => cases hx
def bag : AV -> Bool
  | .v (.int _ _) => true
  | _ => false
def a81 : AV -> Bool
  | .v (.int _ _) => false
  | .v _ => true
  | .lst _ _ => true
  | .ms _ _ _ _ => true
  | _ => false
mutual
def AV.li : AV -> Bool
  | .v _ => true
  | .agg cs => AV.lis cs
  | .tup cs => AV.lis cs
  | .lst sz es => Nat.beq sz 1 && es.all bag
  | _ => false
def AV.lis : List AV -> Bool
  | [] => true
  | x :: l => x.li && AV.lis l
end
theorem AV.lis_mem : ∀ {l : List AV} {c : AV}, AV.lis l = true -> c ∈ l -> c.li = true
 | x :: l, c, h, hc => by
  simp only [AV.lis,and_eq_true] at h
  rcases List.mem_cons.1 hc with rfl | hc
  ·exact h.1
  ·exact AV.lis_mem h.2 hc
theorem a1e {g : Nat -> Array Value -> Prop} {S : Nat -> Nat -> Prop} {m : Nat -> Option Nat} {u : Value} {x : AV} (hx : a81 x = true) (h : Rep g S m u x) (kk : IntKind) (z : Int) : u ≠ .int kk z := by
 rintro rfl
 cases h <;> cases hx
theorem bbd {g g' : Nat -> Array Value -> Prop} {S S' : Nat -> Nat -> Prop} {m m' : Nat -> Option Nat} {v : Value} {x : AV} (hx : x.li = true)
  (hg : ∀ b cs (o : Nat) (kk : IntKind) (z : Int),cs[o]? = some (.int kk z) -> g b cs -> g' b cs) (h : Rep g S m v x) : Rep g' S' m' v x := by
 induction h with
 | v => exact .v _
 | agg hn h1 hr ih => exact .agg hn h1 (fun j u c hu hc => ih j u c hu hc (AV.lis_mem hx (mem_of_getElem? hc)))
 | tup hn hr ih => exact .tup hn (fun j u c hu hc => ih j u c hu hc (AV.lis_mem hx (mem_of_getElem? hc)))
 | lst0 a cap sz => exact .lst0 _ _ _
 | @lst _ b off cap sz es cs u hb hc hl hs h1 hu hr _ =>
  simp only [AV.li,and_eq_true] at hx
  have hsz := eq_of_beq_eq_true hx.1
  subst hsz
  match es,hx,hc,hl,hs,h1,hu,hr with
  | [],_,_,_,_,_,_,_ => exact .lst0 _ _ _
  | e :: es, hx, hc, hl, hs, h1, hu, hr =>
   have hcell : ∀ (i j : Nat) (e' c : AV), (e :: es)[i]? = some e' -> e'.cells[j]? = some c -> ∃ kk z, c = .v (.int kk z) := by
    intro i j e' c he hc'
    have h9 := List.all_eq_true.1 hx.2 e' (mem_of_getElem? he)
    cases e' with
    | v y => cases y with
     | int kk z =>
      cases j with
      | zero => cases hc'; exact ⟨_,_,rfl⟩
      | succ j => cases hc'
     | _ => cases h9
    | _ => cases h9
   have he0 : ∃ kk z, e = .v (.int kk z) := by
    have h9 := List.all_eq_true.1 hx.2 e (by simp)
    cases e with
    | v y => cases y with
     | int kk z => exact ⟨_,_,rfl⟩
     | _ => cases h9
    | _ => cases h9
   obtain ⟨kk,z,rfl⟩ := he0
   have h8 := hu 0 0 _ _ rfl rfl
   have h7 := hr 0 0 _ _ rfl rfl
   have h6 : u 0 0 = .int kk z := ba1 h7
   rw [h6] at h8
   refine .lst u (hg b cs _ kk z h8 hb) hc hl hs h1 hu (fun i j e' c he hc' => ?_)
   obtain ⟨k2,z2,rfl⟩ := hcell i j e' c he hc'
   rw [ba1 (hr i j _ _ he hc')]; exact .v _
 | _ => cases hx
theorem Con.lend {f : FuncId} {k : Nat} {cs : List AV} {cs' : Value -> List AV} {H : Hp} {r : AV} (hid : List Nat) (j0 : Nat) (hk : lk H k = some (.box cs)) (hkh : k ∉ hid)
  (hc : ∀ v : Value, v.oneCell' = true -> (cs' v).length = cs.length /\ (∀ (j : Nat) (x : AV), (cs' v)[j]? = some x -> x.one = true) /\
   ∀ (j : Nat) (x x' : AV),cs[j]? = some x -> (cs' v)[j]? = some x' -> (j = j0 /\ x' = .v v) \/ Lent H hid x x')
  (hj : j0 < cs.length)
  (hH : ∀ k z,lk H k = some z -> k ∈ hid \/ (∃ cs,z = .box cs /\ cs.all a81 = true) \/ ∃ vs,z = .vec vs /\ ∀ v ∈ vs,∀ kk z,v ≠ .int kk z) (hr : r.li = true) (h : ∀ v : Value,FnC P f [.iptr (cs' v)] r) : Con P f [.ptr k 0] H r H := by
 refine ⟨(h undef).ok,?_⟩
 intro ext m w vs hext hheap hvs hrep
 have hsz : 0 < vs.size:=by rw [hvs]; exact Nat.one_pos
 have hr0 := hrep 0 vs[0] _ (Array.getElem?_eq_getElem hsz) rfl
 have hb := hheap.blk k _ hk
 generalize hv0 : vs[0] = v0 at hr0
 cases hr0 with
 | @ptr _ _ _ b hmk =>
  rw [hmk] at hb
  cases hb with
  | @box _ _ c t hw hn h1 hrr =>
   have hj0 : j0 < c.size:=by omega
   have hx0 := getElem?_eq_getElem (l := cs) (i := j0) (by omega)
   have hone : (c[j0]).oneCell' = true := (hrr j0 _ _ (Array.getElem?_eq_getElem hj0) hx0).one (h1 j0 _ hx0)
   obtain ⟨g1,g2,g3⟩ := hc c[j0] hone
   have hext' : ∀ b, a8h ext H hid m b -> b < w.heap.size := by
    rintro b (h9 | ⟨k',z',_,h2,h3⟩)
    ·exact hext b h9
    ·exact (hheap.sep k' z' b h2 h3).2
   have hcall := (h c[j0]).ret (a8h ext H hid m) m w vs hext' ⟨fun k z hz => by (cases hz), fun k k' x x' b hx => by (cases hx), fun k x b hx => by (cases hx)⟩ (by rw [hvs]; rfl) (by
    intro j v x hv hx
    match j,hx with
    | 0, hx =>
     cases hx
     rw [Array.getElem?_eq_getElem hsz,hv0] at hv
     cases hv
     refine .iptr (cs := c) (fun j => c.getD j undef) ⟨axw hheap hk hmk hkh,ao8,t,(0,0),hw⟩ g2 ?_ ?_
     ·intro j x hx
      have hlt : j < c.size:=by rw [hn,<- g1]; exact (List.getElem?_eq_some_iff.1 hx).1
      rw [Nat.zero_add,getD_eq_getD_getElem?,Array.getElem?_eq_getElem hlt]; rfl
     ·intro j x hx
      have hlt : j < c.size:=by rw [hn,<- g1]; exact (List.getElem?_eq_some_iff.1 hx).1
      obtain ⟨y,hy⟩ := aa0 g1 hx
      have hcv : c[j]? = some (c.getD j undef):=by rw [getD_eq_getD_getElem?,Array.getElem?_eq_getElem hlt]; rfl
      rcases g3 j y x hy hx with ⟨rfl,rfl⟩ | hl
      ·have : c.getD j undef = c[j] := by rw [Array.getElem?_eq_getElem hlt] at hcv; exact (Option.some.inj hcv).symm
       rw [this]; exact .v _
      ·exact hl.rep hheap (hrr j _ y hcv hy) abu)
   refine Calls.mono hcall ?_
   rintro e w' ⟨v,m',rfl,hf,hh,hnew,hkeep,hres⟩
   have hkeepB : ∀ b,b < w.heap.size -> w'.heap[b]? = w.heap[b]? := fun b hb => hf.keep b hb ao8
   have hframe : Frame (Own H m) w w' := ⟨hf.os,hf.tape,hf.output,hf.size,hf.sz,fun b hb _ => hkeepB b hb⟩
   have him := abw (ext := ext) hframe (hp' := H) (m' := m) (fun k x b hk hb => .inl ⟨k,x,hk,hb⟩)
   refine ⟨v,m,rfl,hframe,⟨?_,hheap.inj,?_⟩,fun k x b hk hb => .inl ⟨k,x,hk,hb⟩,fun _ _ _ _ _ => rfl,?_⟩
   ·intro k z hz
    exact BlkRep.mono (w := w) him hf.sz (fun _ _ _ h => h) rfl (fun b hb => hkeepB b (hheap.sep k z b hz hb).2) (hheap.blk k z hz)
   ·intro k z b hz hb
    have := hheap.sep k z b hz hb
    exact ⟨this.1,lt_of_lt_of_le this.2 hf.size⟩
   ·refine bbd hr ?_ hres
    rintro b2 cs2 o kk z ho ⟨g1,g2,t2,fl,g3⟩
    refine ⟨fun h9 => g1 (.inl h9),?_,t2,fl,g3⟩
    rintro ⟨k2,y,hk2,hb2⟩
    have hlt := fun b hb => (hheap.sep k2 _ b hk2 hb).2
    have h3 := hheap.blk k2 _ hk2
    rw [hb2] at h3
    rcases hH k2 y hk2 with h9 | ⟨cl,rfl,hcl⟩ | ⟨vs2,rfl,hvl⟩
    ·exact g1 (.inr ⟨k2,y,h9,hk2,hb2⟩)
    ·cases h3 with
     | @box _ _ c2 t' hw2 hn2 h12 hrr2 =>
      have hcc : c2 = cs2 := by
       rw [hkeepB b2 (hlt b2 hb2),hw2] at g3
       injection g3 with g3
       injection g3
      subst hcc
      have ho' : o < c2.size := (Array.getElem?_eq_some_iff.1 ho).1
      have hx := getElem?_eq_getElem (l := cl) (i := o) (by omega)
      exact a1e (List.all_eq_true.1 hcl _ (mem_of_getElem? hx)) (hrr2 o _ _ ho hx) kk z rfl
    ·cases h3 with
     | @vec _ _ c2 t' hw2 hc2 h12 =>
      have hcc : c2 = cs2 := by
       rw [hkeepB b2 (hlt b2 hb2),hw2] at g3
       injection g3 with g3
       injection g3
      subst hcc
      have : Value.int kk z ∈ vs2:=by rw [<- hc2]; exact Array.mem_toList_iff.2 (Array.mem_of_getElem? ho)
      exact hvl _ this kk z rfl
end Go.Lw
