/- ModesMirrors: for any linkage and any turns the law returns true and leaves its arguments as they were; ModesTwice: for any linkage and any turns the law returns true and leaves its arguments as they were. No other condition. Part 5 of 6: what the later parts need -/
import Derived.Test.YtjidoooidfcjgaaGreatZd
import Derived.Test.YtjidoooidfcjgaaGreatRows
import Derived.Laws.Cover3
set_option linter.unusedVariables false
open List (mem_of_getElem? mem_cons_of_mem mem_append map_cons mem_cons length_cons mem_cons_self length_append length_nil getD_eq_getElem?_getD all_eq_true getElem?_map getElem?_eq_getElem map_append length_take take_of_length_le drop_zero take_length not_mem_nil length_map map_map map_id map_replicate map_set)
open Nat (eq_of_beq_eq_true le_refl lt_or_ge le_trans zero_le)
open Option (map_eq_some_iff)
open Bool (and_eq_true or_eq_true)
open Int (toNat_natCast)
open Go.Proofs.Tryz
namespace Go.Lw
open Go.Proofs
def u8 (n : Nat) : AV := .v (.int .u8 n)
theorem anq {p q : Bool} {a b : Nat} {c : Nat} (hp : p = decide (a <= c)) (hq : q = decide (c <= b)) : cond p q false = decide (a <= c /\ c <= b) := by
 subst hp; subst hq
 by_cases h : a <= c
 ·simp [h]
 ·simp [h]
theorem a0x (c k : Nat) : aaa .geq (c : Int) (k : Int) = decide (k <= c):=by simp only [aaa,decide_eq_decide]; omega
theorem a2h (c k : Nat) : aaa .leq (c : Int) (k : Int) = decide (c <= k):=by simp only [aaa,decide_eq_decide]; omega
theorem a5m (c : Nat) : cond (cond (aaa .geq (c : Int) 97) (aaa .leq (c : Int) 122) false) true (cond (aaa .geq (c : Int) 65) (aaa .leq (c : Int) 90) false) = ab2 c := by
 have e1 : cond (aaa .geq (c : Int) 97) (aaa .leq (c : Int) 122) false = decide (97 <= c /\ c <= 122) := anq (a0x c 97) (a2h c 122)
 have e2 : cond (aaa .geq (c : Int) 65) (aaa .leq (c : Int) 90) false = decide (65 <= c /\ c <= 90) := anq (a0x c 65) (a2h c 90)
 rw [e1,e2]
 unfold ab2
 cases decide (97 <= c /\ c <= 122) <;> rfl
theorem a61 (c : Nat) : cond (cond (aaa .geq (c : Int) 65) (aaa .leq (c : Int) 90) false) true (cond (aaa .geq (c : Int) 97) (aaa .leq (c : Int) 122) false) = ab2 c := by
 have e1 : cond (aaa .geq (c : Int) 97) (aaa .leq (c : Int) 122) false = decide (97 <= c /\ c <= 122) := anq (a0x c 97) (a2h c 122)
 have e2 : cond (aaa .geq (c : Int) 65) (aaa .leq (c : Int) 90) false = decide (65 <= c /\ c <= 90) := anq (a0x c 65) (a2h c 90)
 rw [e1,e2]
 unfold ab2
 cases decide (97 <= c /\ c <= 122) <;> cases decide (65 <= c /\ c <= 90) <;> rfl
theorem a21 (c : Nat) : cond (aaa .geq (c : Int) 48) (aaa .leq (c : Int) 57) false = apa c := anq (a0x c 48) (a2h c 57)
theorem az5 (c : Nat) : cond (cond (ab2 c) true (apa c)) true (aaa .eql (c : Int) 95) = ant c := by
 unfold ant
 have : aaa .eql (c : Int) 95 = decide (c = 95) := by
  rw [Bool.eq_iff_iff]; simp only [aaa,beq_iff_eq,decide_eq_true_eq]; omega
 rw [this]
 cases ab2 c <;> cases apa c <;> rfl
theorem aiy (c : Nat) : FnC prog 372 [u8 c] (bl (ab2 c)) := by
 refine gF0 func372 ?_
 refine gE1 ?_
 exact congrArg bl (a5m c)
theorem aq9 (c : Nat) : FnC prog 410 [u8 c] (bl (apa c)) := by
 refine gF0 func410 ?_
 refine gE1 ?_
 exact congrArg bl (a21 c)
theorem ar2 (c : Nat) : FnC prog 373 [u8 c] (bl (ant c)) := by
 refine gF0 func373 ?_
 refine gc (aiy c) ?_
 refine gcG (fun _ => (aq9 c)) ?_
 refine gE1 ?_
 exact congrArg bl (az5 c)
theorem air (c : Nat) : FnC prog 289 [u8 c] (bl (ab2 c)) := by
 refine gF0 func289 ?_
 refine gE1 ?_
 exact congrArg bl (a61 c)
theorem aqc (c : Nat) : FnC prog 291 [u8 c] (bl (apa c)) := by
 refine gF0 func291 ?_
 refine gE1 ?_
 exact congrArg bl (a21 c)
theorem arq (s : ByteArray) (hs : s.size <= 281474976710656) : FnC prog 300 [.v (.string s)] (i64 (afo s)) := by
 refine gF0 func300 ?_
 refine gs (aco rfl rfl rfl (fun h => akh (.opt rfl (o1 h)) (.const _) T9 rfl (by omega) (by have := a3x h; omega) rfl)) ?_
 refine gcG (fun _ => (aiy (aci s 0))) ?_
 refine gC (fun ht11 => ?_) (fun ht11 => ?_)
 ·have h0 : afo s = 0 := a3o ht11
  refine gE1 ?_
  rw [h0]; rfl
 ·obtain ⟨h0, h1⟩ := a1y ht11
  refine gL1 [0] [] (fun (n : Nat) => [(3,some (i64 n))]) (fun _ => []) (fun n => 1 <= n /\ n <= s.size /\ afw s 1 (s.size - 1) = afw s n (s.size - n)) (fun n => s.size - n) 1 ⟨le_refl _,h0,rfl⟩ ?_
  rintro n ⟨hn1,hn,hw⟩ K1 hK1
  refine gs (aco rfl rfl rfl (fun h => akh (.opt rfl (o1 h)) (.opt rfl (o1 h)) T9 rfl (by omega) (by have := abb h; omega) rfl)) ?_
  refine gcG (fun _ => (ar2 (aci s n))) ?_
  refine gC (fun ht21 => ?_) (fun ht21 => ?_)
  ·have h2 : n < s.size /\ ant (aci s n) = true := a6n ht21
   refine ga aas ?_
   exact gK1 hK1 (n + 1) ⟨by omega,by omega,by rw [hw,show s.size - n = (s.size - (n + 1)) + 1 by omega]; simp only [afw,h2.2,if_true]⟩
  ·have h2 : n < s.size -> ant (aci s n) = false := a1s ht21
   have h3 : afo s = n := by
    unfold afo
    rw [if_pos ⟨h0,h1⟩,hw]
    rcases lt_or_ge n s.size with h | h
    ·rw [show s.size - n = (s.size - (n + 1)) + 1 by omega]
     simp only [afw,h2 h,Bool.false_eq_true,if_false]
    ·rw [show s.size - n = 0 by omega]; rfl
   refine gE1 ?_
   rw [h3]
theorem ae0 (s : ByteArray) (hs : s.size <= 281474976710656) : FnC prog 198 [.v (.string s)] (bl (ahl s)) := by
 refine gF0 func198 ?_
 refine gc (arq s hs) ?_
 refine gE1 ?_
 exact congrArg bl (a1d s)
theorem amd (s : ByteArray) (i : Nat) : FnC prog 290 [.v (.string s), i64 i] (u8 (aci s i)) := by
 refine gF0 func290 ?_
 refine gC (fun ht8 => ?_) (fun ht8 => ?_)
 ·have h0 := abb ht8
  refine gs (akh (.tmp rfl) (.tmp rfl) T9 rfl (by omega) (by omega) rfl) ?_
  refine gE1 ?_
  rfl
 ·have h0 := a6j ht8
  refine gE1 ?_
  rw [aw8 (by omega)]; rfl
theorem aqe (s : ByteArray) (hs : s.size <= 281474976710656) : FnC prog 171 [.v (.string s), i64 0] (i64 ((if ab2 (aci s 0) then afw s 0 s.size else 0 : Nat))) := by
 refine gF0 func171 ?_
 refine gc (amd s 0) ?_
 refine gc (air (aci s 0)) ?_
 refine gC (fun ht9 => ?_) (fun ht9 => ?_)
 ·have h0 : ab2 (aci s 0) = false := by simpa using ht9
  refine gE1 ?_
  rw [h0]; rfl
 ·have h0 : ab2 (aci s 0) = true := by simpa using ht9
  refine gL1 [0] [] (fun (n : Nat) => [(1,some (i64 n))]) (fun _ => []) (fun n => n <= s.size /\ afw s 0 s.size = afw s n (s.size - n)) (fun n => s.size - n) 0 ⟨zero_le _,rfl⟩ ?_
  rintro n ⟨hn,hw⟩ K1 hK1
  refine gc (amd s n) ?_
  refine gc (air (aci s n)) ?_
  refine gcG (fun _ => (amd s n)) ?_
  refine gcG (fun _ => (aqc (aci s n))) ?_
  refine gcG (fun _ => (amd s n)) ?_
  refine gC (fun ht26 => ?_) (fun ht26 => ?_)
  ·have h1 : ant (aci s n) = true := (az5 _).symm.trans ht26
   have h2 : n < s.size := by
    rcases lt_or_ge n s.size with h | h
    ·exact h
    ·rw [aw8 h] at h1; cases h1
   refine ga aas ?_
   exact gK1 hK1 (n + 1) ⟨by omega,by rw [hw,show s.size - n = (s.size - (n + 1)) + 1 by omega]; simp only [afw,h1,if_true]⟩
  ·have h1 : ant (aci s n) = false := (az5 _).symm.trans ht26
   have h2 : afw s 0 s.size = n := by
    rw [hw]
    rcases lt_or_ge n s.size with h | h
    ·rw [show s.size - n = (s.size - (n + 1)) + 1 by omega]
     simp only [afw,h1,Bool.false_eq_true,if_false]
    ·rw [show s.size - n = 0 by omega]; rfl
   refine gE1 ?_
   rw [h0,h2]; rfl
theorem age (s : ByteArray) (hs : s.size <= 281474976710656) : FnC prog 74 [.v (.string s)] (bl (ahl s)) := by
 refine gF0 func74 ?_
 refine gcG (fun _ => (aqe s hs)) ?_
 refine gE1 ?_
 exact congrArg bl (azp s)
end Go.Lw
namespace Go.Lw
open Go.Proofs
theorem afa (i : Int) (n : Nat) : FnC prog 302 [i64 i, i64 n] (bl (inB i n)) := by
 refine gF0 func302 ?_
 refine gE1 ?_
 exact congrArg bl (awe i n)
theorem aos (bs : List Bd) (hbs : ∀ b ∈ bs, b.ok) (hl : bs.length <= 281474976710656) : FnC prog 199 [.lst 2 (bs.map Bd.av)] (ain (adi bs.length (bdE bs))) := by
 refine gF0 func199 ?_
 refine gl ?_
 refine gL1 [0,11,12] [] (fun (i : Nat) => [(13,some (i64 i))]) (fun _ => []) (fun i => i <= bs.length /\ ∀ j,j < i -> bdE bs j = 0) (fun i => bs.length - i) 0 ⟨zero_le _,fun j h => by omega⟩ ?_
 rintro i ⟨hi,hj⟩ K1 hK1
 refine gC (fun ht14 => ?_) (fun ht14 => ?_)
 ·have hin := abb ht14
  obtain ⟨b,hb⟩ := ab6 hin
  have hbd : bs.getD i default = b := aar hb
  have hbo := hbs b (mem_of_getElem? hb)
  have hbdup := aez Bd.name hb
  refine gi (aae hb) ?_
  refine gc (ae0 b.name hbo.name) ?_
  refine gC (fun ht21 => ?_) (fun ht21 => ?_)
  ·have h1 := aeb ht21
   have e1 : bdE bs i = 5:=by unfold bdE; rw [hbd,if_pos h1]
   refine gE1 ?_
   rw [aa0 hin hj (by rw [e1]; decide),e1]; rfl
  ·have h1 := aea ht21
   refine gs (aam (.tmp rfl) (.none _) (.some _ (.tmp rfl) (by omega)) T22 rfl T118 rfl (by omega) (by simp only [length_map]; omega) rfl) ?_
   refine ge rfl ?_
   refine gL1 [0,3,4,11,12,13] [4] (fun (k : Nat) => [(25,some (.lst 2 ((bs.take i).map Bd.av))),(26,some (i64 i)),(27,some (i64 k))]) (fun _ => []) (fun k => k <= i /\ (bs.take k).any (fun y => eqS y.name b.name) = false) (fun k => i - k) 0 ⟨zero_le _,rfl⟩ ?_ (h1 := (.cons rfl (Sub.of (bfu 2 Bd.av bs i)) (.cons rfl (Sub.int (by simp; omega)) (.k .nil))))
   rintro k ⟨hk,hd⟩ K2 hK2
   refine gC (fun ht28 => ?_) (fun ht28 => ?_)
   ·have hkn := abb ht28
    obtain ⟨y,hy'⟩ : ∃ y,(bs.take i)[k]? = some y := ab6 (by simp; omega)
    have hy := (aj7 hy').1
    refine gi (aae hy') ?_
    refine gC (fun ht35 => ?_) (fun ht35 => ?_)
    ·have h2 : eqS y.name b.name = true := ht35
     have e1 : bdE bs i = 6:=by unfold bdE; rw [hbd,if_neg (by rw [h1]; decide),if_pos (by rw [hbdup]; exact afz hy hkn h2)]
     refine gE1 ?_
     rw [aa0 hin hj (by rw [e1]; decide),e1]; rfl
    ·have h2 : eqS y.name b.name = false := ht35
     refine ga aas ?_
     exact gK1 hK2 (k + 1) ⟨hkn,ad2 hy hd h2⟩
   ·have hkn := aal hk ht28
    subst hkn
    have hnd : ¬ ask (bs.map Bd.name) k = true:=by rw [hbdup,hd]; decide
    refine gl ?_
    refine gC (fun ht41 => ?_) (fun ht41 => ?_)
    ·have h3 : 8 < b.pts.length := amj ht41
     have e1 : bdE bs k = 4:=by unfold bdE; rw [hbd,if_neg (by rw [h1]; decide),if_neg hnd,if_pos h3]
     refine gE1 ?_
     rw [aa0 hin hj (by rw [e1]; decide),e1]; rfl
    ·have h3 : b.pts.length <= 8 := aoj ht41
     have e1 : bdE bs k = adi b.pts.length (mkE b.pts):=by unfold bdE; rw [hbd,if_neg (by rw [h1]; decide),if_neg hnd,if_neg (by omega)]
     refine gl ?_
     refine gL1 [0,4,11,12,13,44,45] [4] (fun (p : Nat) => [(46,some (i64 p))]) (fun _ => []) (fun p => p <= b.pts.length /\ ∀ j,j < p -> mkE b.pts j = 0) (fun p => b.pts.length - p) 0 ⟨zero_le _,fun j h => by omega⟩ ?_
     rintro p ⟨hp,hpj⟩ K3 hK3
     refine gC (fun ht47 => ?_) (fun ht47 => ?_)
     ·have hpn := abb ht47
      obtain ⟨m,hm⟩ := ab6 hpn
      have hmd : b.pts.getD p default = m := aar hm
      have hmm := mem_of_getElem? hm
      have hmdup := aez Mk.name hm
      have hmo := hbo.pts m hmm
      refine gi (aae hm) ?_
      refine gc (ae0 m.name (hbo.names m hmm)) ?_
      refine gC (fun ht54 => ?_) (fun ht54 => ?_)
      ·have h4 := aeb ht54
       have e2 : mkE b.pts p = 5:=by unfold mkE; rw [hmd,if_pos h4]
       have e3 : bdE bs k = 5:=by rw [e1,aa0 hpn hpj (by rw [e2]; decide),e2]
       refine gE1 ?_
       rw [aa0 hin hj (by rw [e3]; decide),e3]; rfl
      ·have h4 := aea ht54
       refine gs (aam (.tmp rfl) (.none _) (.some _ (.tmp rfl) (by omega)) T116 rfl T120 rfl (by omega) (by simp only [length_map]; omega) rfl) ?_
       refine ge rfl ?_
       refine gL1 [0,4,8,11,12,13,44,45,46] [4,8] (fun (q : Nat) => [(59,some (.lst 7 ((b.pts.take p).map Mk.av))),(60,some (i64 p)),(61,some (i64 q))]) (fun _ => []) (fun q => q <= p /\ (b.pts.take q).any (fun y => eqS y.name m.name) = false) (fun q => p - q) 0 ⟨zero_le _,rfl⟩ ?_ (h1 := (.cons rfl (Sub.of (bfu 7 Mk.av b.pts p)) (.cons rfl (Sub.int (by simp; omega)) (.k .nil))))
       rintro q ⟨hq,hqd⟩ K4 hK4
       refine gC (fun ht62 => ?_) (fun ht62 => ?_)
       ·have hqn := abb ht62
        obtain ⟨y,hy'⟩ : ∃ y,(b.pts.take p)[q]? = some y := ab6 (by simp; omega)
        have hy := (aj7 hy').1
        refine gi (aae hy') ?_
        refine gC (fun ht69 => ?_) (fun ht69 => ?_)
        ·have h5 : eqS y.name m.name = true := ht69
         have e2 : mkE b.pts p = 6:=by unfold mkE; rw [hmd,if_neg (by rw [h4]; decide),if_pos (by rw [hmdup]; exact afz hy hqn h5)]
         have e3 : bdE bs k = 6:=by rw [e1,aa0 hpn hpj (by rw [e2]; decide),e2]
         refine gE1 ?_
         rw [aa0 hin hj (by rw [e3]; decide),e3]; rfl
        ·have h5 : eqS y.name m.name = false := ht69
         refine ga aas ?_
         exact gK1 hK4 (q + 1) ⟨hqn,ad2 hy hqd h5⟩
       ·have hqn := aal hq ht62
        subst hqn
        have hmnd : ¬ ask (b.pts.map Mk.name) q = true:=by rw [hmdup,hqd]; decide
        refine gc (ab8 m.x hmo.x) ?_
        refine gcG (fun _ => (ab8 m.y hmo.y)) ?_
        refine gC (fun ht81 => ?_) (fun ht81 => ?_)
        ·have h6 := bct ht81
         have e2 : mkE b.pts q = 3:=by unfold mkE; rw [hmd,if_neg (by rw [h4]; decide),if_neg hmnd,if_neg (by rintro ⟨g1,g2⟩; rcases h6 with g | g; (rw [g1] at g; cases g); (rw [g2] at g; cases g))]
         have e3 : bdE bs k = 3:=by rw [e1,aa0 hpn hpj (by rw [e2]; decide),e2]
         refine gE1 ?_
         rw [aa0 hin hj (by rw [e3]; decide),e3]; rfl
        ·have h6 := bam ht81
         have e2 : mkE b.pts q = 0:=by unfold mkE; rw [hmd,if_neg (by rw [h4]; decide),if_neg hmnd,if_pos h6]
         refine ga aas ?_
         exact gK1 hK3 (q + 1) ⟨hpn,fun j h9 => by rcases lt_or_ge j q with g | g; exact hpj j g; (have : j = q:=by omega); subst this; exact e2⟩
     ·have hpn := aal hp ht47
      subst hpn
      have e2 : bdE bs k = 0 := e1.trans (acv hpj)
      refine ga aas ?_
      exact gK1 hK1 (k + 1) ⟨hin,fun j h9 => by rcases lt_or_ge j k with g | g; exact hj j g; (have : j = k:=by omega); subst this; exact e2⟩
 ·have hin := aal hi ht14
  subst hin
  refine gE1 ?_
  rw [acv hj]; rfl
end Go.Lw
namespace Go.Lw
open Go.Proofs
theorem aql (l : Li) (hl : l.ok) (j : Jt) : FnC prog 301 [l.av, j.av] (ain (jt0 l j)) := by
 refine gF0 func301 ?_
 refine gC (fun ht15 => ?_) (fun ht15 => ?_)
 ·have h1 := a8q ht15
  refine gE1 ?_
  unfold jt0; rw [if_pos h1]; rfl
 ·have h1 := a74 ht15
  refine gl ?_
  refine gc (afa j.a l.bodies.length) ?_
  refine glG ?_
  refine gcG (fun _ => (afa j.b l.bodies.length)) ?_
  refine gC (fun ht32 => ?_) (fun ht32 => ?_)
  ·have h2 := bct ht32
   refine gE1 ?_
   unfold jt0; rw [if_neg h1,if_pos h2]; rfl
  ·have h2 := bam ht32
   have h2n : ¬ (inB j.a l.bodies.length = false \/ inB j.b l.bodies.length = false):=by rw [h2.1,h2.2]; simp
   obtain ⟨A,hA,pA,mA,zA0⟩ := aya h2.1
   obtain ⟨B,hB,pB,mB,zB0⟩ := aya h2.2
   refine gC (fun ht38 => ?_) (fun ht38 => ?_)
   ·have h3 := ahf ht38
    refine gE1 ?_
    unfold jt0; rw [if_neg h1,if_neg h2n,if_pos h3]; rfl
   ·have h3 := aj0 ht38
    refine gi (aae hB) ?_
    refine gi (aae hA) ?_
    refine gl ?_
    refine gc (afa j.point A.pts.length) ?_
    refine glG ?_
    refine gcG (fun _ => (afa j.on B.pts.length)) ?_
    refine gD ?_
    refine gC (fun ht66 => ?_) (fun ht66 => ?_)
    ·have h4 := bct ht66
     refine gE1 ?_
     unfold jt0; rw [if_neg h1,if_neg h2n,if_neg h3,pA,pB,if_pos h4]; rfl
    ·have h4 := bam ht66
     have h4n : ¬ (inB j.point A.pts.length = false \/ inB j.on B.pts.length = false):=by rw [h4.1,h4.2]; simp
     refine gC (fun ht70 => ?_) (fun ht70 => ?_)
     ·have h5 := ahf ht70
      refine gC (fun ht73 => ?_) (fun ht73 => ?_)
      ·have h6 := av6 ht73
       refine gE1 ?_
       unfold jt0; rw [if_neg h1,if_neg h2n,if_neg h3,pA,pB,if_neg h4n,if_pos h5,if_pos h6]; rfl
      ·have h6 := a77 ht73
       refine gE1 ?_
       unfold jt0; rw [if_neg h1,if_neg h2n,if_neg h3,pA,pB,if_neg h4n,if_pos h5,if_neg (by rw [h6]; simp)]; rfl
     ·have h5 := aj0 ht70
      refine gl ?_
      refine gc (afa j.to B.pts.length) ?_
      refine gC (fun ht80 => ?_) (fun ht80 => ?_)
      ·have h6 := aeb ht80
       refine gE1 ?_
       unfold jt0; rw [if_neg h1,if_neg h2n,if_neg h3,pA,pB,if_neg h4n,if_neg h5,if_pos h6]; rfl
      ·have h6 := aea ht80
       obtain ⟨m1,g1,d1,mm1,z1⟩ := axy h4.2
       obtain ⟨m2,g2,d2,mm2,z2⟩ := axy h6
       have mo1 := (hl.bodies B mB).pts m1 mm1
       have mo2 := (hl.bodies B mB).pts m2 mm2
       refine gi (aae g1) ?_
       refine gi (aae g2) ?_
       refine gD ?_
       refine gc (ai3 m1.x m2.x mo1.x mo2.x) ?_
       refine gcG (fun _ => (ai3 m1.y m2.y mo1.y mo2.y)) ?_
       refine gC (fun ht105 => ?_) (fun ht105 => ?_)
       ·have h7 := a8l ht105
        refine gE1 ?_
        unfold jt0; rw [if_neg h1,if_neg h2n,if_neg h3,pA,pB,if_neg h4n,if_neg h5,if_neg (by rw [h6]; decide),d1,d2,if_pos h7]; rfl
       ·have h7 := a9g ht105
        refine gE1 ?_
        unfold jt0; rw [if_neg h1,if_neg h2n,if_neg h3,pA,pB,if_neg h4n,if_neg h5,if_neg (by rw [h6]; decide),d1,d2,if_neg h7]; rfl
theorem ao3 (l : Li) (hl : l.ok) : FnC prog 200 [l.av] (ain (akr l)) := by
 have hlj := hl.lj
 refine gF0 func200 ?_
 refine gl ?_
 refine gC (fun ht11 => ?_) (fun ht11 => ?_)
 ·have h0 : 16 < l.joints.length := amj ht11
  refine gE1 ?_
  unfold akr; rw [if_pos h0]; rfl
 ·have h0 : l.joints.length <= 16 := aoj ht11
  have e0 : akr l = adi l.joints.length (jtE l):=by unfold akr; rw [if_neg (by omega)]
  refine gl ?_
  refine gL1 [1,14,15] [1] (fun (i : Nat) => [(16,some (i64 i))]) (fun _ => []) (fun i => i <= l.joints.length /\ ∀ j,j < i -> jtE l j = 0) (fun i => l.joints.length - i) 0 ⟨zero_le _,fun j h => by omega⟩ ?_
  rintro i ⟨hi,hj⟩ K1 hK1
  refine gC (fun ht17 => ?_) (fun ht17 => ?_)
  ·have hin := abb ht17
   obtain ⟨b,hb⟩ := ab6 hin
   have hbd : l.joints.getD i default = b := aar hb
   have hbdup := aez Jt.name hb
   refine gi (aae hb) ?_
   refine gc (ae0 b.name (hl.jnames b (mem_of_getElem? hb))) ?_
   refine gC (fun ht24 => ?_) (fun ht24 => ?_)
   ·have h1 := aeb ht24
    have e1 : jtE l i = 5:=by unfold jtE; rw [hbd,if_pos h1]
    refine gE1 ?_
    rw [e0,aa0 hin hj (by rw [e1]; decide),e1]; rfl
   ·have h1 := aea ht24
    refine gs (aam (.tmp rfl) (.none _) (.some _ (.tmp rfl) (by omega)) T23 rfl T157 rfl (by omega) (by simp only [length_map]; omega) rfl) ?_
    refine ge rfl ?_
    refine gL1 [1,3,4,14,15,16] [1,4] (fun (k : Nat) => [(29,some (.lst 7 ((l.joints.take i).map Jt.av))),(30,some (i64 i)),(31,some (i64 k))]) (fun _ => []) (fun k => k <= i /\ (l.joints.take k).any (fun y => eqS y.name b.name) = false) (fun k => i - k) 0 ⟨zero_le _,rfl⟩ ?_ (h1 := (.cons rfl (Sub.of (bfu 7 Jt.av l.joints i)) (.cons rfl (Sub.int (by simp; omega)) (.k .nil))))
    rintro k ⟨hk,hd⟩ K2 hK2
    refine gC (fun ht32 => ?_) (fun ht32 => ?_)
    ·have hkn := abb ht32
     obtain ⟨y,hy'⟩ : ∃ y,(l.joints.take i)[k]? = some y := ab6 (by simp; omega)
     have hy := (aj7 hy').1
     refine gi (aae hy') ?_
     refine gC (fun ht39 => ?_) (fun ht39 => ?_)
     ·have h2 : eqS y.name b.name = true := ht39
      have e1 : jtE l i = 6:=by unfold jtE; rw [hbd,if_neg (by rw [h1]; decide),if_pos (by rw [hbdup]; exact afz hy hkn h2)]
      refine gE1 ?_
      rw [e0,aa0 hin hj (by rw [e1]; decide),e1]; rfl
     ·have h2 : eqS y.name b.name = false := ht39
      refine ga aas ?_
      exact gK1 hK2 (k + 1) ⟨hkn,ad2 hy hd h2⟩
    ·have hkn := aal hk ht32
     subst hkn
     have hnd : ¬ ask (l.joints.map Jt.name) k = true:=by rw [hbdup,hd]; decide
     have e1 : jtE l k = jt0 l b:=by unfold jtE; rw [hbd,if_neg (by rw [h1]; decide),if_neg hnd]
     refine gc (aql l hl b) ?_
     refine gC (fun ht46 => ?_) (fun ht46 => ?_)
     ·have h3 := aec ht46
      refine gE1 ?_
      rw [e0,aa0 hin hj (by rw [e1]; exact h3),e1]
     ·have h3 := aee ht46
      refine ga aas ?_
      exact gK1 hK1 (k + 1) ⟨hin,fun j h9 => by rcases lt_or_ge j k with g | g; exact hj j g; (have : j = k:=by omega); subst this; exact e1.trans h3⟩
  ·have hin := aal hi ht17
   subst hin
   refine gE1 ?_
   rw [e0,acv hj]; rfl
theorem amy (l : Li) (hl : l.ok) : FnC prog 201 [l.av] (ain (aqr l)) := by
 have hld := hl.ld
 refine gF0 func201 ?_
 refine gl ?_
 refine gC (fun ht12 => ?_) (fun ht12 => ?_)
 ·have h0 : 2 < l.drivers.length := amj ht12
  refine gE1 ?_
  unfold aqr; rw [if_pos h0]; rfl
 ·have h0 : l.drivers.length <= 2 := aoj ht12
  have e0 : aqr l = adi l.drivers.length (drE l):=by unfold aqr; rw [if_neg (by omega)]
  refine gl ?_
  refine gL1 [1,15,16] [1] (fun (i : Nat) => [(17,some (i64 i))]) (fun _ => []) (fun i => i <= l.drivers.length /\ ∀ j,j < i -> drE l j = 0) (fun i => l.drivers.length - i) 0 ⟨zero_le _,fun j h => by omega⟩ ?_
  rintro i ⟨hi,hj⟩ K1 hK1
  refine gC (fun ht18 => ?_) (fun ht18 => ?_)
  ·have hin := abb ht18
   obtain ⟨b,hb⟩ := ab6 hin
   have hbd : l.drivers.getD i default = b := aar hb
   have hbdup := aez Dr.name hb
   refine gi (aae hb) ?_
   refine gc (ae0 b.name (hl.dnames b (mem_of_getElem? hb))) ?_
   refine gC (fun ht25 => ?_) (fun ht25 => ?_)
   ·have h1 := aeb ht25
    have e1 : drE l i = 5:=by unfold drE; rw [hbd,if_pos h1]
    refine gE1 ?_
    rw [e0,aa0 hin hj (by rw [e1]; decide),e1]; rfl
   ·have h1 := aea ht25
    refine gs (aam (.tmp rfl) (.none _) (.some _ (.tmp rfl) (by omega)) T24 rfl T190 rfl (by omega) (by simp only [length_map]; omega) rfl) ?_
    refine ge rfl ?_
    refine gL1 [1,3,4,15,16,17] [1,4] (fun (k : Nat) => [(30,some (.lst 2 ((l.drivers.take i).map Dr.av))),(31,some (i64 i)),(32,some (i64 k))]) (fun _ => []) (fun k => k <= i /\ (l.drivers.take k).any (fun y => eqS y.name b.name) = false) (fun k => i - k) 0 ⟨zero_le _,rfl⟩ ?_ (h1 := (.cons rfl (Sub.of (bfu 2 Dr.av l.drivers i)) (.cons rfl (Sub.int (by simp; omega)) (.k .nil))))
    rintro k ⟨hk,hd⟩ K2 hK2
    refine gC (fun ht33 => ?_) (fun ht33 => ?_)
    ·have hkn := abb ht33
     obtain ⟨y,hy'⟩ : ∃ y,(l.drivers.take i)[k]? = some y := ab6 (by simp; omega)
     have hy := (aj7 hy').1
     refine gi (aae hy') ?_
     refine gC (fun ht40 => ?_) (fun ht40 => ?_)
     ·have h2 : eqS y.name b.name = true := ht40
      have e1 : drE l i = 6:=by unfold drE; rw [hbd,if_neg (by rw [h1]; decide),if_pos (by rw [hbdup]; exact afz hy hkn h2)]
      refine gE1 ?_
      rw [e0,aa0 hin hj (by rw [e1]; decide),e1]; rfl
     ·have h2 : eqS y.name b.name = false := ht40
      refine ga aas ?_
      exact gK1 hK2 (k + 1) ⟨hkn,ad2 hy hd h2⟩
    ·have hkn := aal hk ht33
     subst hkn
     have hnd : ¬ ask (l.drivers.map Dr.name) k = true:=by rw [hbdup,hd]; decide
     refine gl ?_
     refine gc (afa b.body l.bodies.length) ?_
     refine gC (fun ht49 => ?_) (fun ht49 => ?_)
     ·have h3 := aeb ht49
      have e1 : drE l k = 9:=by unfold drE; rw [hbd,if_neg (by rw [h1]; decide),if_neg hnd,if_pos h3]
      refine gE1 ?_
      rw [e0,aa0 hin hj (by rw [e1]; decide),e1]; rfl
     ·have h3 := aea ht49
      refine gC (fun ht53 => ?_) (fun ht53 => ?_)
      ·have h4 := ahf ht53
       have e1 : drE l k = 7:=by unfold drE; rw [hbd,if_neg (by rw [h1]; decide),if_neg hnd,if_neg (by rw [h3]; decide),if_pos h4]
       refine gE1 ?_
       rw [e0,aa0 hin hj (by rw [e1]; decide),e1]; rfl
      ·have h4 := aj0 ht53
       have e1 : drE l k = if (l.drivers.take k).any (fun d => decide (d.body = b.body)) = true then 6 else 0:=by unfold drE; rw [hbd,if_neg (by rw [h1]; decide),if_neg hnd,if_neg (by rw [h3]; decide),if_neg h4]
       refine gs (aam (.tmp rfl) (.none _) (.some _ (.tmp rfl) (by omega)) T24 rfl T190 rfl (by omega) (by simp only [length_map]; omega) rfl) ?_
       refine ge rfl ?_
       refine gL1 [1,4,15,16,17] [1,4] (fun (q : Nat) => [(58,some (.lst 2 ((l.drivers.take k).map Dr.av))),(59,some (i64 k)),(60,some (i64 q))]) (fun _ => []) (fun q => q <= k /\ (l.drivers.take q).any (fun d => decide (d.body = b.body)) = false) (fun q => k - q) 0 ⟨zero_le _,rfl⟩ ?_ (h1 := (.cons rfl (Sub.of (bfu 2 Dr.av l.drivers k)) (.cons rfl (Sub.int (by simp; omega)) (.k .nil))))
       rintro q ⟨hq,hqd⟩ K3 hK3
       refine gC (fun ht61 => ?_) (fun ht61 => ?_)
       ·have hqn := abb ht61
        obtain ⟨y,hy'⟩ : ∃ y,(l.drivers.take k)[q]? = some y := ab6 (by simp; omega)
        have hy := (aj7 hy').1
        refine gi (aae hy') ?_
        refine gC (fun ht68 => ?_) (fun ht68 => ?_)
        ·have h5 : decide (y.body = b.body) = true := decide_eq_true (ahf ht68)
         have e2 : drE l k = 6:=by rw [e1,if_pos (afz hy hqn h5)]
         refine gE1 ?_
         rw [e0,aa0 hin hj (by rw [e2]; decide),e2]; rfl
        ·have h5 : decide (y.body = b.body) = false := decide_eq_false (aj0 ht68)
         refine ga aas ?_
         exact gK1 hK3 (q + 1) ⟨hqn,ad2 hy hqd h5⟩
       ·have hqn := aal hq ht61
        subst hqn
        have e2 : drE l q = 0:=by rw [e1,hqd]; rfl
        refine ga aas ?_
        exact gK1 hK1 (q + 1) ⟨hin,fun j h9 => by rcases lt_or_ge j q with g | g; exact hj j g; (have : j = q:=by omega); subst this; exact e2⟩
  ·have hin := aal hi ht18
   subst hin
   refine gE1 ?_
   rw [e0,acv hj]; rfl
theorem ag6 (l : Li) (hl : l.ok) : FnC prog 102 [l.av] (ain (liE l)) := by
 have hlb := hl.lb
 refine gF0 func102 ?_
 refine gc (ae0 l.name hl.name) ?_
 refine gC (fun ht8 => ?_) (fun ht8 => ?_)
 ·have h1 := aeb ht8
  refine gE1 ?_
  unfold liE; rw [if_pos h1]; rfl
 ·have h1 := aea ht8
  refine gl ?_
  refine gC (fun ht13 => ?_) (fun ht13 => ?_)
  ·have h2 := a8k ht13
   refine gE1 ?_
   unfold liE; rw [if_neg (by rw [h1]; decide),if_pos h2]; rfl
  ·have h2 := a79 ht13
   refine gl ?_
   refine gC (fun ht18 => ?_) (fun ht18 => ?_)
   ·have h3 : 8 < l.bodies.length := amj ht18
    refine gE1 ?_
    unfold liE; rw [if_neg (by rw [h1]; decide),if_neg h2,if_pos h3]; rfl
   ·have h3 : l.bodies.length <= 8 := aoj ht18
    have e0 : liE l = if apj l ≠ 0 then apj l else if akr l ≠ 0 then akr l else aqr l:=by unfold liE; rw [if_neg (by rw [h1]; decide),if_neg h2,if_neg (by omega)]
    refine gc (aos l.bodies hl.bodies hlb) ?_
    refine gC (fun ht24 => ?_) (fun ht24 => ?_)
    ·have h4 : apj l ≠ 0 := aec ht24
     refine gE1 ?_
     rw [e0,if_pos h4]; rfl
    ·have h4 : apj l = 0 := aee ht24
     refine gc (ao3 l hl) ?_
     refine gC (fun ht29 => ?_) (fun ht29 => ?_)
     ·have h5 := aec ht29
      refine gE1 ?_
      rw [e0,if_neg (by rw [h4]; simp),if_pos h5]
     ·have h5 := aee ht29
      refine gc (amy l hl) ?_
      refine gE1 ?_
      rw [e0,if_neg (by rw [h4]; simp),if_neg (by rw [h5]; simp)]
end Go.Lw
namespace Go.Lw
open Go.Proofs
theorem aen (i : Int) (n : Nat) : FnC prog 173 [i64 i, i64 n] (bl (inB i n)) := by
 refine gF0 func173 ?_
 refine gE1 ?_
 exact congrArg bl (awe i n)
theorem ayr (p q : Mk) (hp : p.ok) (hq : q.ok) : FnC prog 174 [p.av, q.av] (bl (decide (p.x.q = q.x.q /\ p.y.q = q.y.q))) := by
 refine gF0 func174 ?_
 refine gc (amm p.x q.x hp.x hq.x ((hp.qx.sub hq.qx).qs (by omega))) ?_
 refine gcG (fun _ => (amm p.y q.y hp.y hq.y ((hp.qy.sub hq.qy).qs (by omega)))) ?_
 refine gE1 ?_
 exact congrArg bl a6w
theorem as1 (b : Bd) (hbo : b.ok) : FnC prog 172 [b.av] (i64 (if 8 < b.pts.length then 4 else adi b.pts.length (mkE b.pts) : Nat)) := by
 have hll := hbo.ll
 refine gF0 func172 ?_
 refine gl ?_
 refine gC (fun ht9 => ?_) (fun ht9 => ?_)
 ·have h0 : 8 < b.pts.length := amj ht9
  refine gE1 ?_
  rw [if_pos h0]; rfl
 ·have h0 : b.pts.length <= 8 := aoj ht9
  have e0 : (if 8 < b.pts.length then 4 else adi b.pts.length (mkE b.pts) : Nat) = adi b.pts.length (mkE b.pts) := if_neg (by omega)
  refine gL1 [1] [1] (fun (p : Nat) => [(3,some (i64 p))]) (fun _ => []) (fun p => p <= b.pts.length /\ ∀ j,j < p -> mkE b.pts j = 0) (fun p => b.pts.length - p) 0 ⟨zero_le _,fun j h => by omega⟩ ?_
  rintro p ⟨hp,hpj⟩ K1 hK1
  refine gl ?_
  refine gC (fun ht14 => ?_) (fun ht14 => ?_)
  ·have hpn := abb ht14
   obtain ⟨m,hm⟩ := ab6 hpn
   have hmd : b.pts.getD p default = m := aar hm
   have hmm := mem_of_getElem? hm
   have hmdup := aez Mk.name hm
   have hmo := hbo.pts m hmm
   refine gi (aae hm) ?_
   refine gc (age m.name (hbo.names m hmm)) ?_
   refine gC (fun ht25 => ?_) (fun ht25 => ?_)
   ·have h4 := aeb ht25
    have e2 : mkE b.pts p = 5:=by unfold mkE; rw [hmd,if_pos h4]
    refine gE1 ?_
    rw [e0,aa0 hpn hpj (by rw [e2]; decide),e2]; rfl
   ·have h4 := aea ht25
    refine gL1 [1,3,4] [1,4] (fun (q : Nat) => [(5,some (i64 q))]) (fun _ => []) (fun q => q <= p /\ (b.pts.take q).any (fun y => eqS y.name m.name) = false) (fun q => p - q) 0 ⟨zero_le _,rfl⟩ ?_
    rintro q ⟨hq,hqd⟩ K2 hK2
    refine gC (fun ht28 => ?_) (fun ht28 => ?_)
    ·have hqn := abb ht28
     obtain ⟨y,hy⟩ : ∃ y,b.pts[q]? = some y := ab6 (by omega)
     refine gi (aae hy) ?_
     refine gD ?_
     refine gC (fun ht39 => ?_) (fun ht39 => ?_)
     ·have h5 : eqS y.name m.name = true := ht39
      have e2 : mkE b.pts p = 6:=by unfold mkE; rw [hmd,if_neg (by rw [h4]; decide),if_pos (by rw [hmdup]; exact afz hy hqn h5)]
      refine gE1 ?_
      rw [e0,aa0 hpn hpj (by rw [e2]; decide),e2]; rfl
     ·have h5 : eqS y.name m.name = false := ht39
      refine ga aas ?_
      exact gK1 hK2 (q + 1) ⟨hqn,ad2 hy hqd h5⟩
    ·have hqn := aal hq ht28
     subst hqn
     have hmnd : ¬ ask (b.pts.map Mk.name) q = true:=by rw [hmdup,hqd]; decide
     refine gc (afj m.x hmo.x) ?_
     refine gcG (fun _ => (afj m.y hmo.y)) ?_
     refine gC (fun ht49 => ?_) (fun ht49 => ?_)
     ·have h6 := bct ht49
      have e2 : mkE b.pts q = 3:=by unfold mkE; rw [hmd,if_neg (by rw [h4]; decide),if_neg hmnd,if_neg (by rintro ⟨g1,g2⟩; rcases h6 with g | g; (rw [g1] at g; cases g); (rw [g2] at g; cases g))]
      refine gE1 ?_
      rw [e0,aa0 hpn hpj (by rw [e2]; decide),e2]; rfl
     ·have h6 := bam ht49
      have e2 : mkE b.pts q = 0:=by unfold mkE; rw [hmd,if_neg (by rw [h4]; decide),if_neg hmnd,if_pos h6]
      refine ga aas ?_
      exact gK1 hK1 (q + 1) ⟨hpn,fun j h9 => by rcases lt_or_ge j q with g | g; exact hpj j g; (have : j = q:=by omega); subst this; exact e2⟩
  ·have hpn := aal hp ht14
   subst hpn
   refine gE1 ?_
   rw [e0,acv hpj]; rfl
theorem atc (l : Li) (hl : l.ok) : FnC prog 75 [l.av] (i64 (apj l)) := by
 have hlb := hl.lb
 have e0 : apj l = adi l.bodies.length (bdE l.bodies) := rfl
 refine gF0 func75 ?_
 refine gL1 [1] [1] (fun (i : Nat) => [(3,some (i64 i))]) (fun _ => []) (fun i => i <= l.bodies.length /\ ∀ j,j < i -> bdE l.bodies j = 0) (fun i => l.bodies.length - i) 0 ⟨zero_le _,fun j h => by omega⟩ ?_
 rintro i ⟨hi,hj⟩ K1 hK1
 refine gl ?_
 refine gC (fun ht10 => ?_) (fun ht10 => ?_)
 ·have hin := abb ht10
  obtain ⟨b,hb⟩ := ab6 hin
  have hbd : l.bodies.getD i default = b := aar hb
  have hbo := hl.bodies b (mem_of_getElem? hb)
  have hbdup := aez Bd.name hb
  refine gi (aae hb) ?_
  refine gc (age b.name hbo.name) ?_
  refine gC (fun ht20 => ?_) (fun ht20 => ?_)
  ·have h1 := aeb ht20
   have e1 : bdE l.bodies i = 5:=by unfold bdE; rw [hbd,if_pos h1]
   refine gE1 ?_
   rw [e0,aa0 hin hj (by rw [e1]; decide),e1]; rfl
  ·have h1 := aea ht20
   refine gL1 [1,3] [1] (fun (k : Nat) => [(4,some (i64 k))]) (fun _ => []) (fun k => k <= i /\ (l.bodies.take k).any (fun y => eqS y.name b.name) = false) (fun k => i - k) 0 ⟨zero_le _,rfl⟩ ?_
   rintro k ⟨hk,hd⟩ K2 hK2
   refine gC (fun ht23 => ?_) (fun ht23 => ?_)
   ·have hkn := abb ht23
    obtain ⟨y,hy⟩ : ∃ y,l.bodies[k]? = some y := ab6 (by omega)
    refine gi (aae hy) ?_
    refine gi (aae hb) ?_
    refine gD ?_
    refine gC (fun ht38 => ?_) (fun ht38 => ?_)
    ·have h2 : eqS y.name b.name = true := ht38
     have e1 : bdE l.bodies i = 6:=by unfold bdE; rw [hbd,if_neg (by rw [h1]; decide),if_pos (by rw [hbdup]; exact afz hy hkn h2)]
     refine gE1 ?_
     rw [e0,aa0 hin hj (by rw [e1]; decide),e1]; rfl
    ·have h2 : eqS y.name b.name = false := ht38
     refine ga aas ?_
     exact gK1 hK2 (k + 1) ⟨hkn,ad2 hy hd h2⟩
   ·have hkn := aal hk ht23
    subst hkn
    have hnd : ¬ ask (l.bodies.map Bd.name) k = true:=by rw [hbdup,hd]; decide
    have e1 : bdE l.bodies k = if 8 < b.pts.length then 4 else adi b.pts.length (mkE b.pts):=by unfold bdE; rw [hbd,if_neg (by rw [h1]; decide),if_neg hnd]
    refine gi (aae hb) ?_
    refine gc (as1 b hbo) ?_
    refine gC (fun ht46 => ?_) (fun ht46 => ?_)
    ·have h3 := anb ht46
     refine gE1 ?_
     rw [e0,aa0 hin hj (by rw [e1]; exact h3),e1]
    ·have h3 := alz ht46
     refine ga aas ?_
     exact gK1 hK1 (k + 1) ⟨hin,fun j h9 => by rcases lt_or_ge j k with g | g; exact hj j g; (have : j = k:=by omega); subst this; exact e1.trans h3⟩
 ·have hin := aal hi ht10
  subst hin
  refine gE1 ?_
  rw [e0,acv hj]; rfl
theorem auv (l : Li) (hl : l.ok) (i : Nat) (hi : i < l.joints.length) (h16 : l.joints.length <= 16) : FnC prog 76 [l.av, i64 i] (i64 (jtE l i)) := by
 obtain ⟨j,hjj⟩ := ab6 hi
 have hbd : l.joints.getD i default = j := aar hjj
 have hbdup := aez Jt.name hjj
 refine gF0 func76 ?_
 refine gi (aae hjj) ?_
 refine gc (age j.name (hl.jnames j (mem_of_getElem? hjj))) ?_
 refine gC (fun ht17 => ?_) (fun ht17 => ?_)
 ·have h0 := aeb ht17
  refine gE1 ?_
  unfold jtE; rw [hbd,if_pos h0]; rfl
 ·have h0 := aea ht17
  refine gL1 [1,2,5] [2,5] (fun (k : Nat) => [(6,some (i64 k))]) (fun _ => []) (fun k => k <= i /\ (l.joints.take k).any (fun y => eqS y.name j.name) = false) (fun k => i - k) 0 ⟨zero_le _,rfl⟩ ?_
  rintro k ⟨hk,hd⟩ K1 hK1
  refine gC (fun ht20 => ?_) (fun ht20 => ?_)
  ·have hkn := abb ht20
   obtain ⟨y,hy⟩ : ∃ y,l.joints[k]? = some y := ab6 (by omega)
   refine gi (aae hy) ?_
   refine gD ?_
   refine gC (fun ht31 => ?_) (fun ht31 => ?_)
   ·have h2 : eqS y.name j.name = true := ht31
    refine gE1 ?_
    unfold jtE; rw [hbd,if_neg (by rw [h0]; decide),if_pos (by rw [hbdup]; exact afz hy hkn h2)]; rfl
   ·have h2 : eqS y.name j.name = false := ht31
    refine ga aas ?_
    exact gK1 hK1 (k + 1) ⟨hkn,ad2 hy hd h2⟩
  ·have hkn := aal hk ht20
   subst hkn
   have hnd : ¬ ask (l.joints.map Jt.name) k = true:=by rw [hbdup,hd]; decide
   have e1 : jtE l k = jt0 l j:=by unfold jtE; rw [hbd,if_neg (by rw [h0]; decide),if_neg hnd]
   refine gC (fun ht39 => ?_) (fun ht39 => ?_)
   ·have h1 := a8q ht39
    refine gE1 ?_
    rw [e1]; unfold jt0; rw [if_pos h1]; rfl
   ·have h1 := a74 ht39
    refine gl ?_
    refine gc (aen j.a l.bodies.length) ?_
    refine glG ?_
    refine gcG (fun _ => (aen j.b l.bodies.length)) ?_
    refine gC (fun ht55 => ?_) (fun ht55 => ?_)
    ·have h2 := bct ht55
     refine gE1 ?_
     rw [e1]; unfold jt0; rw [if_neg h1,if_pos h2]; rfl
    ·have h2 := bam ht55
     have h2n : ¬ (inB j.a l.bodies.length = false \/ inB j.b l.bodies.length = false):=by rw [h2.1,h2.2]; simp
     obtain ⟨A,hA,pA,mA,zA0⟩ := aya h2.1
     obtain ⟨B,hB,pB,mB,zB0⟩ := aya h2.2
     refine gC (fun ht60 => ?_) (fun ht60 => ?_)
     ·have h3 := ahf ht60
      refine gE1 ?_
      rw [e1]; unfold jt0; rw [if_neg h1,if_neg h2n,if_pos h3]; rfl
     ·have h3 := aj0 ht60
      refine gi (aae hA) ?_
      refine gi (aae hB) ?_
      refine gD ?_
      refine gl ?_
      refine gc (aen j.point A.pts.length) ?_
      refine glG ?_
      refine gcG (fun _ => (aen j.on B.pts.length)) ?_
      refine gC (fun ht88 => ?_) (fun ht88 => ?_)
      ·have h4 := bct ht88
       refine gE1 ?_
       rw [e1]; unfold jt0; rw [if_neg h1,if_neg h2n,if_neg h3,pA,pB,if_pos h4]; rfl
      ·have h4 := bam ht88
       have h4n : ¬ (inB j.point A.pts.length = false \/ inB j.on B.pts.length = false):=by rw [h4.1,h4.2]; simp
       refine gC (fun ht91 => ?_) (fun ht91 => ?_)
       ·have h5 := ahf ht91
        refine gC (fun ht94 => ?_) (fun ht94 => ?_)
        ·have h6 := av6 ht94
         refine gE1 ?_
         rw [e1]; unfold jt0; rw [if_neg h1,if_neg h2n,if_neg h3,pA,pB,if_neg h4n,if_pos h5,if_pos h6]; rfl
        ·have h6 := a77 ht94
         refine gE1 ?_
         rw [e1]; unfold jt0; rw [if_neg h1,if_neg h2n,if_neg h3,pA,pB,if_neg h4n,if_pos h5,if_neg (by rw [h6]; simp)]; rfl
       ·have h5 := aj0 ht91
        refine gl ?_
        refine gc (aen j.to B.pts.length) ?_
        refine gC (fun ht100 => ?_) (fun ht100 => ?_)
        ·have h6 := aeb ht100
         refine gE1 ?_
         rw [e1]; unfold jt0; rw [if_neg h1,if_neg h2n,if_neg h3,pA,pB,if_neg h4n,if_neg h5,if_pos h6]; rfl
        ·have h6 := aea ht100
         obtain ⟨m1,g1,d1,mm1,z1⟩ := axy h4.2
         obtain ⟨m2,g2,d2,mm2,z2⟩ := axy h6
         have mo1 := (hl.bodies B mB).pts m1 mm1
         have mo2 := (hl.bodies B mB).pts m2 mm2
         refine gi (aae g1) ?_
         refine gi (aae g2) ?_
         refine gc (ayr m1 m2 mo1 mo2) ?_
         refine gD ?_
         refine gC (fun ht111 => ?_) (fun ht111 => ?_)
         ·have h7 := of_decide_eq_true ht111
          refine gE1 ?_
          rw [e1]; unfold jt0; rw [if_neg h1,if_neg h2n,if_neg h3,pA,pB,if_neg h4n,if_neg h5,if_neg (by rw [h6]; decide),d1,d2,if_pos h7]; rfl
         ·have h7 := of_decide_eq_false ht111
          refine gE1 ?_
          rw [e1]; unfold jt0; rw [if_neg h1,if_neg h2n,if_neg h3,pA,pB,if_neg h4n,if_neg h5,if_neg (by rw [h6]; decide),d1,d2,if_neg h7]; rfl
theorem atn (l : Li) (hl : l.ok) (i : Nat) (hi : i < l.drivers.length) (h2l : l.drivers.length <= 2) : FnC prog 77 [l.av, i64 i] (i64 (drE l i)) := by
 obtain ⟨b,hb⟩ := ab6 hi
 have hbd : l.drivers.getD i default = b := aar hb
 have hbdup := aez Dr.name hb
 refine gF0 func77 ?_
 refine gi (aae hb) ?_
 refine gc (age b.name (hl.dnames b (mem_of_getElem? hb))) ?_
 refine gC (fun ht16 => ?_) (fun ht16 => ?_)
 ·have h1 := aeb ht16
  refine gE1 ?_
  unfold drE; rw [hbd,if_pos h1]; rfl
 ·have h1 := aea ht16
  refine gL1 [1,2,5] [2,5] (fun (k : Nat) => [(6,some (i64 k))]) (fun _ => []) (fun k => k <= i /\ (l.drivers.take k).any (fun y => eqS y.name b.name) = false) (fun k => i - k) 0 ⟨zero_le _,rfl⟩ ?_
  rintro k ⟨hk,hd⟩ K1 hK1
  refine gC (fun ht19 => ?_) (fun ht19 => ?_)
  ·have hkn := abb ht19
   obtain ⟨y,hy⟩ : ∃ y,l.drivers[k]? = some y := ab6 (by omega)
   refine gi (aae hy) ?_
   refine gD ?_
   refine gC (fun ht30 => ?_) (fun ht30 => ?_)
   ·have h2 : eqS y.name b.name = true := ht30
    refine gE1 ?_
    unfold drE; rw [hbd,if_neg (by rw [h1]; decide),if_pos (by rw [hbdup]; exact afz hy hkn h2)]; rfl
   ·have h2 : eqS y.name b.name = false := ht30
    refine ga aas ?_
    exact gK1 hK1 (k + 1) ⟨hkn,ad2 hy hd h2⟩
  ·have hkn := aal hk ht19
   subst hkn
   have hnd : ¬ ask (l.drivers.map Dr.name) k = true:=by rw [hbdup,hd]; decide
   refine gl ?_
   refine gc (aen b.body l.bodies.length) ?_
   refine gC (fun ht37 => ?_) (fun ht37 => ?_)
   ·have h3 := aeb ht37
    refine gE1 ?_
    unfold drE; rw [hbd,if_neg (by rw [h1]; decide),if_neg hnd,if_pos h3]; rfl
   ·have h3 := aea ht37
    refine gC (fun ht40 => ?_) (fun ht40 => ?_)
    ·have h4 := ahf ht40
     refine gE1 ?_
     unfold drE; rw [hbd,if_neg (by rw [h1]; decide),if_neg hnd,if_neg (by rw [h3]; decide),if_pos h4]; rfl
    ·have h4 := aj0 ht40
     have e1 : drE l k = if (l.drivers.take k).any (fun d => decide (d.body = b.body)) = true then 6 else 0:=by unfold drE; rw [hbd,if_neg (by rw [h1]; decide),if_neg hnd,if_neg (by rw [h3]; decide),if_neg h4]
     refine gL1 [1,2,5] [2,5] (fun (q : Nat) => [(7,some (i64 q))]) (fun _ => []) (fun q => q <= k /\ (l.drivers.take q).any (fun d => decide (d.body = b.body)) = false) (fun q => k - q) 0 ⟨zero_le _,rfl⟩ ?_
     rintro q ⟨hq,hqd⟩ K2 hK2
     refine gC (fun ht43 => ?_) (fun ht43 => ?_)
     ·have hqn := abb ht43
      obtain ⟨y,hy⟩ : ∃ y,l.drivers[q]? = some y := ab6 (by omega)
      refine gi (aae hy) ?_
      refine gD ?_
      refine gC (fun ht54 => ?_) (fun ht54 => ?_)
      ·have h5 : decide (y.body = b.body) = true := decide_eq_true (ahf ht54)
       refine gE1 ?_
       rw [e1,if_pos (afz hy hqn h5)]; rfl
      ·have h5 : decide (y.body = b.body) = false := decide_eq_false (aj0 ht54)
       refine ga aas ?_
       exact gK1 hK2 (q + 1) ⟨hqn,ad2 hy hqd h5⟩
     ·have hqn := aal hq ht43
      subst hqn
      refine gE1 ?_
      rw [e1,hqd]; rfl
theorem agx (l : Li) (hl : l.ok) : FnC prog 14 [l.av] (i64 (liE l)) := by
 have hlb := hl.lb
 refine gF0 func14 ?_
 refine gc (age l.name hl.name) ?_
 refine gC (fun ht11 => ?_) (fun ht11 => ?_)
 ·have h1 := aeb ht11
  refine gE1 ?_
  unfold liE; rw [if_pos h1]; rfl
 ·have h1 := aea ht11
  refine gl ?_
  refine gC (fun ht15 => ?_) (fun ht15 => ?_)
  ·have h2 := a8k ht15
   refine gE1 ?_
   unfold liE; rw [if_neg (by rw [h1]; decide),if_pos h2]; rfl
  ·have h2 := a79 ht15
   refine gl ?_
   refine gC (fun ht19 => ?_) (fun ht19 => ?_)
   ·have h3 : 8 < l.bodies.length := amj ht19
    refine gE1 ?_
    unfold liE; rw [if_neg (by rw [h1]; decide),if_neg h2,if_pos h3]; rfl
   ·have h3 : l.bodies.length <= 8 := aoj ht19
    have e0 : liE l = if apj l ≠ 0 then apj l else if akr l ≠ 0 then akr l else aqr l:=by unfold liE; rw [if_neg (by rw [h1]; decide),if_neg h2,if_neg (by omega)]
    refine gc (atc l hl) ?_
    refine gC (fun ht23 => ?_) (fun ht23 => ?_)
    ·have h4 : apj l ≠ 0 := anb ht23
     refine gE1 ?_
     rw [e0,if_pos h4]
    ·have h4 : apj l = 0 := alz ht23
     refine gl ?_
     refine gC (fun ht28 => ?_) (fun ht28 => ?_)
     ·have h5 : 16 < l.joints.length := amj ht28
      have ej : akr l = 4:=by unfold akr; rw [if_pos h5]
      refine gE1 ?_
      rw [e0,if_neg (by rw [h4]; simp),if_pos (by rw [ej]; decide),ej]; rfl
     ·have h5 : l.joints.length <= 16 := aoj ht28
      have ej : akr l = adi l.joints.length (jtE l):=by unfold akr; rw [if_neg (by omega)]
      refine gL1 [1] [1] (fun (i : Nat) => [(4,some (i64 i))]) (fun _ => []) (fun i => i <= l.joints.length /\ ∀ j,j < i -> jtE l j = 0) (fun i => l.joints.length - i) 0 ⟨zero_le _,fun j h => by omega⟩ ?_
      rintro i ⟨hi,hj⟩ K1 hK1
      refine gl ?_
      refine gC (fun ht33 => ?_) (fun ht33 => ?_)
      ·have hin := abb ht33
       refine gc (auv l hl i hin h5) ?_
       refine gC (fun ht40 => ?_) (fun ht40 => ?_)
       ·have h6 := anb ht40
        refine gE1 ?_
        rw [e0,if_neg (by rw [h4]; simp),if_pos (by rw [ej,aa0 hin hj h6]; exact h6),ej,aa0 hin hj h6]
       ·have h6 := alz ht40
        refine ga aas ?_
        exact gK1 hK1 (i + 1) ⟨hin,fun j h9 => by rcases lt_or_ge j i with g | g; exact hj j g; (have : j = i:=by omega); subst this; exact h6⟩
      ·have hin := aal hi ht33
       subst hin
       have ejz : akr l = 0 := ej.trans (acv hj)
       have e0' : liE l = aqr l:=by rw [e0,if_neg (by rw [h4]; simp),if_neg (by rw [ejz]; simp)]
       refine gl ?_
       refine gC (fun ht45 => ?_) (fun ht45 => ?_)
       ·have h6 : 2 < l.drivers.length := amj ht45
        refine gE1 ?_
        rw [e0']; unfold aqr; rw [if_pos h6]; rfl
       ·have h6 : l.drivers.length <= 2 := aoj ht45
        have ed : aqr l = adi l.drivers.length (drE l):=by unfold aqr; rw [if_neg (by omega)]
        refine gL1 [1] [1] (fun (k : Nat) => [(6,some (i64 k))]) (fun _ => []) (fun k => k <= l.drivers.length /\ ∀ j,j < k -> drE l j = 0) (fun k => l.drivers.length - k) 0 ⟨zero_le _,fun j h => by omega⟩ ?_
        rintro k ⟨hk,hkj⟩ K2 hK2
        refine gl ?_
        refine gC (fun ht50 => ?_) (fun ht50 => ?_)
        ·have hkn := abb ht50
         refine gc (atn l hl k hkn h6) ?_
         refine gC (fun ht57 => ?_) (fun ht57 => ?_)
         ·have h7 := anb ht57
          refine gE1 ?_
          rw [e0',ed,aa0 hkn hkj h7]
         ·have h7 := alz ht57
          refine ga aas ?_
          exact gK1 hK2 (k + 1) ⟨hkn,fun j h9 => by rcases lt_or_ge j k with g | g; exact hkj j g; (have : j = k:=by omega); subst this; exact h7⟩
        ·have hkn := aal hk ht50
         subst hkn
         refine gE1 ?_
         rw [e0',ed,acv hkj]; rfl
end Go.Lw
namespace Go.Lw
open Go.Proofs
theorem au9 (l : Li) (hl : l.okw) : FnC prog 10 [l.av] (bl (liB l)) := by
 have hbl := hl.lb
 refine gF0 func10 ?_
 refine gl ?_
 refine gL1 [1,8,9] [1] (fun (i : Nat) => [(10,some (i64 i))]) (fun _ => []) (fun i => i <= l.bodies.length /\ (l.bodies.take i).all bdB = true) (fun i => l.bodies.length - i) 0 ⟨zero_le _,rfl⟩ ?_
 rintro i ⟨hi,hj⟩ K1 hK1
 refine gC (fun ht11 => ?_) (fun ht11 => ?_)
 ·have hin := abb ht11
  obtain ⟨b,hb⟩ := ab6 hin
  refine gi (aae hb) ?_
  refine gl ?_
  refine gC (fun ht17 => ?_) (fun ht17 => ?_)
  ·have h1 : 30 < b.pts.length := amj ht17
   refine gE1 ?_
   unfold liB; rw [aeq hb (by unfold bdB; rw [decide_eq_false (by omega)]; rfl)]; rfl
  ·have h1 : b.pts.length <= 30 := aoj ht17
   refine gl ?_
   refine gL1 [1,8,9,10,19,20] [1] (fun (k : Nat) => [(21,some (i64 k))]) (fun _ => []) (fun k => k <= b.pts.length /\ (b.pts.take k).all mkB = true) (fun k => b.pts.length - k) 0 ⟨zero_le _,rfl⟩ ?_
   rintro k ⟨hk,hkj⟩ K2 hK2
   refine gC (fun ht22 => ?_) (fun ht22 => ?_)
   ·have hkn := abb ht22
    obtain ⟨p,hp⟩ := ab6 hkn
    refine gi (aae hp) ?_
    refine gl ?_
    refine glG ?_
    refine glG ?_
    refine glG ?_
    refine gC (fun ht50 => ?_) (fun ht50 => ?_)
    ·have h2 : mkB p = false := bds ht50
     refine gE1 ?_
     unfold liB; rw [aeq hb (by unfold bdB; rw [aeq hp h2,Bool.and_false])]; rfl
    ·have h2 : mkB p = true := bd6 ht50
     refine ga aas ?_
     exact gK1 hK2 (k + 1) ⟨hkn,ae7 hkj hp h2⟩
   ·have hkn := aal hk ht22
    refine ga aas ?_
    exact gK1 hK1 (i + 1) ⟨hin,ae7 hj hb (by unfold bdB; rw [decide_eq_true h1,ag1 hkn hkj]; rfl)⟩
 ·have hin := aal hi ht11
  refine gl ?_
  refine glG ?_
  refine glG ?_
  refine gE1 ?_
  exact congrArg bl (a9v (ag1 hin hj))
end Go.Lw
namespace Go.Lw
open Go.Proofs
theorem ava : FnC prog 16 [.v .nilIface] (i64 0) := by
 refine gF0 func16 ?_
 refine gC (fun ht6 => ?_) (fun ht6 => ?_) (st2 := (77777,0))
 ·refine gE1 ?_
  first | rfl | (simp; done)
 ·cases ht6
theorem auq (n : Int) : FnC prog 16 [.v (.iface 66 (.int .i64 n))] (i64 n) := by
 refine gF0 func16 ?_
 refine gC (fun ht6 => ?_) (fun ht6 => ?_) (st1 := (2,0))
 ·cases ht6
 ·refine gs (a6l (.tmp rfl) T66 rfl rfl) ?_
  refine gC (fun ht13 => ?_) (fun ht13 => ?_) (st1 := (5,0))
  ·cases ht13
  ·refine gE1 ?_
   rfl
theorem apk (e : Nat) : FnC prog 16 [ain e] (i64 e) := by
 cases e with
 | zero => exact ava
 | succ e => exact auq _
end Go.Lw
namespace Go.Lw
structure Gr where
  kind : Int
  bodies : List Int
  joints : List Int
  driver : Int
instance : Inhabited Gr := ⟨⟨0,[],[],0⟩⟩
def Gr.av (g : Gr) : AV := .agg [i64 g.kind,.lst 1 (g.bodies.map i64),.lst 1 (g.joints.map i64),i64 g.driver]
def kn (k : List Bool) (i : Int) : Bool := k.getD i.toNat false
def adv (n : Nat) (b : Int) : List Bool := (List.replicate n false).set b.toNat true
def ajl (l : Li) (b : Int) : Bool := l.drivers.any (fun d => decide (d.body = b))
def freeB (l : Li) (known : List Bool) (b : Int) : Bool := !kn known b && !ajl l b
def a5c (kind body : Int) (oth : List Bool) (j : Jt) : Bool := decide (j.kind = kind) && (decide (j.a = body) && kn oth j.b || decide (j.b = body) && kn oth j.a)
def jointI (l : Li) (kind body : Int) (oth : List Bool) : Int := ixI (ac1 l.joints.length (fun i => !a5c kind body oth (l.joints.getD i default)))
def drHit (l : Li) (known : List Bool) (i : Nat) : Bool := !kn known (l.drivers.getD i default).body && decide (0 <= jointI l 0 (l.drivers.getD i default).body known)
def driverG (l : Li) (known : List Bool) : Option Gr :=
  (ac1 l.drivers.length (fun i => !drHit l known i)).map fun i => ⟨0,[(l.drivers.getD i default).body],[jointI l 0 (l.drivers.getD i default).body known],i⟩
def prHit (l : Li) (known : List Bool) (i k : Nat) : Bool :=
  (freeB l known i && freeB l known k) && (decide (0 <= jointI l 0 i known) && decide (0 <= jointI l 0 k known) && decide (0 <= jointI l 0 i (adv l.bodies.length k)))
def prAt (l : Li) (known : List Bool) (i : Nat) : Option Nat := (ac1 (l.bodies.length - (i + 1)) (fun k => !prHit l known i (i + 1 + k))).map (· + (i + 1))
def prG (l : Li) (known : List Bool) (i k : Nat) : Gr := ⟨1,[i,k],[jointI l 0 i known,jointI l 0 k known,jointI l 0 i (adv l.bodies.length k)],0⟩
def pairG (l : Li) (known : List Bool) : Option Gr :=
  (ac1 l.bodies.length (fun i => (prAt l known i).isNone)).map fun i => match prAt l known i with
    | some k => prG l known i k
    | none => default
def sgHit (l : Li) (known : List Bool) (i : Nat) : Bool := freeB l known i && (decide (0 <= jointI l 0 i known) && decide (0 <= jointI l 1 i known))
def sgG (l : Li) (known : List Bool) (i : Nat) : Gr :=
  ⟨if (l.joints.getD (jointI l 1 i known).toNat default).a = i then 2 else 3,[i],[jointI l 0 i known,jointI l 1 i known],0⟩
def singleG (l : Li) (known : List Bool) : Option Gr := (ac1 l.bodies.length (fun i => !sgHit l known i)).map (sgG l known)
def nextG (l : Li) (known : List Bool) : Option Gr := (driverG l known).or ((pairG l known).or (singleG l known))
def aao (known : List Bool) (bs : List Int) : List Bool := bs.foldl (fun k b => k.set b.toNat true) known
def findFrom (l : Li) : Nat -> List Bool -> List Gr -> List Bool × List Gr
  | 0,known,out => (known,out)
  | n + 1, known, out => match nextG l known with
    | none => (known,out)
    | some g => findFrom l n (aao known g.bodies) (out ++ [g])
def findG (l : Li) : List Gr := (findFrom l l.bodies.length (adv l.bodies.length 0) []).2
def ac2 (l : Li) : List Bool := (findG l).foldl (fun k g => aao k g.bodies) (adv l.bodies.length 0)
def afn (l : Li) : List Bool := (findG l).foldl (fun k g => aao k g.joints) (List.replicate l.joints.length false)
def ab5 (k : List Bool) : List Int := ((List.range k.length).filter (fun i => !k.getD i false)).map (fun i : Nat => ((i : Nat) : Int))
def splitE (l : Li) : Nat := if (ab5 (ac2 l)).length + (ab5 (afn l)).length = 0 then 0 else 7
def splitG (l : Li) : List Gr := if splitE l = 0 then findG l else []
theorem ath {kind body : Int} {oth : List Bool} {j : Jt} {va vb : Bool} (ea : kn oth j.a = va) (eb : kn oth j.b = vb) :
  cond (aaa .eql j.kind kind) (cond (cond (aaa .eql j.a body) vb false) true (cond (aaa .eql j.b body) va false)) false = a5c kind body oth j := by
 unfold a5c
 rw [ane,ane,ane,ea,eb,adr,adr,adr,agm]
theorem adh (n : Nat) (b : Int) : (adv n b).length = n:=by unfold adv; simp
theorem aer : ∀ (bs : List Int) (k : List Bool), (aao k bs).length = k.length
 | [],k => rfl
 | b :: bs, k => by
  show (aao (k.set b.toNat true) bs).length = _
  rw [aer bs]; simp
theorem abm {n i : Nat} {ok : Nat -> Bool} (h : ac1 n ok = some i) : i < n /\ ok i = false := by
 unfold ac1 at h
 rw [List.find?_range_eq_some] at h
 exact ⟨by simpa using h.2.1,by simpa using h.1⟩
theorem aew {l : Li} {kind body : Int} {oth : List Bool} : -1 <= jointI l kind body oth /\ jointI l kind body oth < l.joints.length := by
 unfold jointI
 cases h : ac1 l.joints.length (fun i => !a5c kind body oth (l.joints.getD i default)) with
 | none => exact ⟨by decide,by show (-1 : Int) < _; omega⟩
 | some i => have := (abm h).1; exact ⟨by show (-1 : Int) <= (i : Int); omega,by show (i : Int) < _; omega⟩
structure GrOk (l : Li) (g : Gr) : Prop where
  b : ∀ x ∈ g.bodies,0 <= x /\ x < l.bodies.length
  j : ∀ x ∈ g.joints,0 <= x /\ x < l.joints.length
  lb : g.bodies.length <= 2
  lj : g.joints.length <= 3
theorem ayl {l : Li} (hl : liE l = 0) {known : List Bool} {g : Gr} (h : driverG l known = some g) : GrOk l g := by
 unfold driverG at h
 rw [map_eq_some_iff] at h
 obtain ⟨i,hi,rfl⟩ := h
 obtain ⟨h1,h2⟩ := abm hi
 obtain ⟨d,hd⟩ := ab6 h1
 have h3 := aim (ayo hl hd)
 unfold drHit at h2
 simp only [Bool.not_eq_false',and_eq_true,decide_eq_true_eq] at h2
 rw [aar hd] at h2 ⊢
 have h4 := aew (l := l) (kind := 0) (body := d.body) (oth := known)
 refine ⟨fun x hx => ?_,fun x hx => ?_,by simp,by simp⟩
 ·rw [List.mem_singleton.1 hx]; exact h3
 ·rw [List.mem_singleton.1 hx]; exact ⟨h2.2,h4.2⟩
theorem a7y {l : Li} {known : List Bool} {g : Gr} (h : pairG l known = some g) : GrOk l g := by
 unfold pairG at h
 rw [map_eq_some_iff] at h
 obtain ⟨i,hi,h⟩ := h
 obtain ⟨h1,h2⟩ := abm hi
 split at h
 ·rename_i k hk
  subst h
  unfold prAt at hk
  rw [map_eq_some_iff] at hk
  obtain ⟨k',hk',rfl⟩ := hk
  obtain ⟨h3,h4⟩ := abm hk'
  rw [show i + 1 + k' = k' + (i + 1) by omega] at h4
  unfold prHit at h4
  simp only [Bool.not_eq_false',and_eq_true,decide_eq_true_eq] at h4
  obtain ⟨_,⟨j1,j2⟩,j3⟩ := h4
  refine ⟨fun x hx => ?_,fun x hx => ?_,by simp [prG],by simp [prG]⟩
  ·simp only [prG, mem_cons, not_mem_nil, or_false] at hx
   rcases hx with rfl | rfl <;> constructor <;> omega
  ·simp only [prG, mem_cons, not_mem_nil, or_false] at hx
   rcases hx with rfl | rfl | rfl
   ·exact ⟨j1,aew.2⟩
   ·exact ⟨j2,aew.2⟩
   ·exact ⟨j3,aew.2⟩
 ·rename_i hk; rw [hk] at h2; cases h2
theorem azz {l : Li} {known : List Bool} {g : Gr} (h : singleG l known = some g) : GrOk l g := by
 unfold singleG at h
 rw [map_eq_some_iff] at h
 obtain ⟨i,hi,rfl⟩ := h
 obtain ⟨h1,h2⟩ := abm hi
 unfold sgHit at h2
 simp only [Bool.not_eq_false',and_eq_true,decide_eq_true_eq] at h2
 obtain ⟨_,j1,j2⟩ := h2
 refine ⟨fun x hx => ?_,fun x hx => ?_,by simp [sgG],by simp [sgG]⟩
 ·simp only [sgG, mem_cons, not_mem_nil, or_false] at hx
  subst hx; constructor <;> omega
 ·simp only [sgG, mem_cons, not_mem_nil, or_false] at hx
  rcases hx with rfl | rfl
  ·exact ⟨j1,aew.2⟩
  ·exact ⟨j2,aew.2⟩
theorem ap8 {l : Li} (hl : liE l = 0) {known : List Bool} {g : Gr} (h : nextG l known = some g) : GrOk l g := by
 unfold nextG at h
 cases h1 : driverG l known with
 | some g' => rw [h1] at h; cases h; exact ayl hl h1
 | none =>
  rw [h1] at h
  cases h2 : pairG l known with
  | some g' => rw [h2] at h; cases h; exact a7y h2
  | none => rw [h2] at h; exact azz h
theorem aoo {l : Li} (hl : liE l = 0) : ∀ (n : Nat) (known : List Bool) (out : List Gr), (∀ g ∈ out, GrOk l g) -> (∀ g ∈ (findFrom l n known out).2, GrOk l g) /\ (findFrom l n known out).2.length <= out.length + n
 | 0,known,out,h => ⟨h,by simp [findFrom]⟩
 | n + 1, known, out, h => by
  unfold findFrom
  cases hg : nextG l known with
  | none => exact ⟨h,by simp⟩
  | some g =>
   have h1 := aoo hl n (aao known g.bodies) (out ++ [g]) (fun x hx => by
    rcases List.mem_append.1 hx with hx | hx
    ·exact h x hx
    ·rw [List.mem_singleton.1 hx]; exact ap8 hl hg)
   refine ⟨h1.1,?_⟩
   have := h1.2
   rw [length_append] at this
   show (findFrom l n (aao known g.bodies) (out ++ [g])).2.length <= _
   simp only [length_cons,length_nil] at this
   omega
theorem akb {l : Li} (hl : liE l = 0) : (∀ g ∈ findG l, GrOk l g) /\ (findG l).length <= 8 := by
 have h := aoo hl l.bodies.length (adv l.bodies.length 0) [] (fun g hg => by cases hg)
 have h8 := (abr hl).2.2.2.1
 exact ⟨h.1,by have := h.2; simp only [length_nil] at this; unfold findG; omega⟩
end Go.Lw
namespace Go.Lw
def ahd (j : Jt) (b : Int) : Int := if b = j.a then j.b else if b = j.b then j.a else -1
def bgk (kind body : Int) (p : Int -> Bool) (j : Jt) : Bool := decide (j.kind = kind) && (decide (0 <= ahd j body) && p (ahd j body))
def gJ (l : Li) (kind body : Int) (p : Int -> Bool) : Int := ixI (ac1 l.joints.length (fun i => !bgk kind body p (l.joints.getD i default)))
theorem bi6 {b : Bool} {z : Int} (h : cond b (aaa .geq z 0) false = true) : 0 <= z := by
 cases b
 ·cases h
 ·exact of_decide_eq_true h
theorem bgd {a k z : Int} {q : Bool} : cond (cond (aaa .eql a k) (aaa .geq z 0) false) q false = (decide (a = k) && (decide (0 <= z) && q)) := by
 rw [ane,show aaa .geq z 0 = decide (0 <= z) from rfl,adr,adr,Bool.and_assoc]
theorem a5y {l : Li} (hli : liE l = 0) {i : Nat} {j : Jt} (hj : l.joints[i]? = some j) (b : Int) : ahd j b < l.bodies.length := by
 obtain ⟨i1,i2,_⟩ := a6y hli hj
 have b1 := aim i1
 have b2 := aim i2
 unfold ahd
 split
 ·omega
 ·split <;> omega
theorem ati {n : Nat} {ok ok' : Nat -> Bool} (h : ∀ i, i < n -> ok i = ok' i) : ac1 n ok = ac1 n ok' := by
 unfold ac1
 have : ∀ l : List Nat, (∀ i ∈ l, i < n) -> l.find? (fun i => !ok i) = l.find? (fun i => !ok' i) := by
  intro l
  induction l with
  | nil => intro _; rfl
  | cons a l ih =>
   intro hl
   simp only [List.find?_cons,h a (hl a (by simp)),ih (fun i hi => hl i (by simp [hi]))]
 exact this _ (fun i hi => List.mem_range.1 hi)
theorem bcs {l : Li} (hli : liE l = 0) {kind body : Int} {p : Int -> Bool} {oth : List Bool} (h : ∀ o : Int, 0 <= o -> o < l.bodies.length -> p o = kn oth o) : gJ l kind body p = jointI l kind body oth := by
 unfold gJ jointI
 rw [ati]
 intro i hi
 obtain ⟨j,hj⟩ := ab6 hi
 rw [aar hj]
 obtain ⟨i1,i2,_⟩ := a6y hli hj
 have b1 := aim i1
 have b2 := aim i2
 congr 1
 unfold bgk a5c
 congr 1
 unfold ahd
 by_cases h1 : body = j.a
 ·subst h1
  rw [if_pos rfl,h _ b2.1 b2.2]
  by_cases h2 : j.b = j.a
  ·simp [h2,b1.1]
  ·simp [h2,b2.1]
 ·rw [if_neg h1]
  by_cases h2 : body = j.b
  ·subst h2
   rw [if_pos rfl,h _ b1.1 b1.2]
   have h3 : ¬ j.a = j.b := fun e => h1 e.symm
   simp [h3,b1.1]
  ·rw [if_neg h2]
   have h3 : ¬ j.a = body := fun e => h1 e.symm
   have h4 : ¬ j.b = body := fun e => h2 e.symm
   simp [h3,h4]
theorem a8v {k : List Bool} {i : Nat} {b : Int} (h0 : 0 <= b) (hi : i < k.length) : kn (k.set i true) b = (decide (b = i) || kn k b) := by
 unfold kn
 rw [getD_eq_getElem?_getD,List.getElem?_set,getD_eq_getElem?_getD]
 by_cases h : b = i
 ·rw [decide_eq_true h, Bool.true_or, if_pos (by omega)]
  rw [if_pos (by omega)]; rfl
 ·rw [decide_eq_false h,Bool.false_or,if_neg (by omega)]
theorem a4t : ∀ {bs : List Int} {k : List Bool} {b : Int}, 0 <= b -> (∀ x ∈ bs, 0 <= x /\ x < k.length) -> kn (aao k bs) b = (bs.any (fun x => decide (x = b)) || kn k b)
 | [],k,b,h0,h => by simp [aao]
 | x :: bs, k, b, h0, h => by
  show kn (aao (k.set x.toNat true) bs) b = _
  obtain ⟨hx0,hx1⟩ := h x (by simp)
  rw [a4t h0 (fun y hy => by rw [List.length_set]; exact h y (by simp [hy])),a8v h0 (by omega),List.any_cons]
  have e : decide (b = (x.toNat : Int)) = decide (x = b) := decide_eq_decide.2 (by omega)
  rw [e]
  cases decide (x = b) <;> simp
theorem awk (n : Nat) (b : Int) : kn (List.replicate n false) b = false := by
 unfold kn
 rw [getD_eq_getElem?_getD,List.getElem?_replicate]
 split <;> rfl
def aat (l : Li) : List Bool := aao (List.replicate l.bodies.length false) (l.drivers.map Dr.body)
theorem af4 (l : Li) : (aat l).length = l.bodies.length:=by unfold aat; rw [aer,List.length_replicate]
theorem a2z {l : Li} (hli : liE l = 0) {b : Int} (h0 : 0 <= b) : kn (aat l) b = ajl l b := by
 unfold aat ajl
 rw [a4t h0,awk,Bool.or_false,List.any_map]
 ·rfl
 ·intro x hx
  obtain ⟨d,hd,rfl⟩ := List.mem_map.1 hx
  obtain ⟨i,hi⟩ := List.mem_iff_getElem?.1 hd
  have := aim (ayo hli hi)
  rw [List.length_replicate]; omega
theorem aub {n : Nat} {b o : Int} (h0 : 0 <= o) (hb0 : 0 <= b) (hb : b < n) : kn (adv n b) o = decide (o = b) := by
 unfold adv
 rw [a8v h0 (by rw [List.length_replicate]; omega),awk,Bool.or_false]
 exact decide_eq_decide.2 (by omega)
def unk (k : List Bool) : Nat := k.countP (fun x => !x)
theorem bb4 {k : List Bool} {i : Nat} (h : k[i]? = some false) : unk (k.set i true) + 1 = unk k := by
 unfold unk
 have hi := (List.getElem?_eq_some_iff.1 h).1
 have he := (List.getElem?_eq_some_iff.1 h).2
 rw [List.countP_set hi,he]
 have : 0 < k.countP (fun x => !x) := List.countP_pos_iff.2 ⟨false,mem_of_getElem? h,rfl⟩
 simp; omega
theorem ay6 (k : List Bool) (i : Nat) : unk (k.set i true) <= unk k := by
 by_cases hi : i < k.length
 ·unfold unk; rw [List.countP_set hi]; simp
 ·rw [List.set_eq_of_length_le (by omega)]; exact le_refl _
theorem amr : ∀ (bs : List Int) (k : List Bool), unk (aao k bs) <= unk k
 | [],k => le_refl _
 | x :: bs,k => le_trans (amr bs (k.set x.toNat true)) (ay6 k _)
theorem a6d {x : Int} {bs : List Int} {k : List Bool} (h : k[x.toNat]? = some false) : unk (aao k (x :: bs)) < unk k := by
 have h1 := amr bs (k.set x.toNat true)
 have h2 := bb4 h
 show unk (aao (k.set x.toNat true) bs) < _
 omega
theorem a4d {k : List Bool} {b : Int} (h : kn k b = false) (h1 : b.toNat < k.length) : k[b.toNat]? = some false := by
 unfold kn at h
 rw [getD_eq_getElem?_getD,getElem?_eq_getElem h1] at h
 rw [getElem?_eq_getElem h1]
 simpa using h
theorem a24 {l : Li} (hl : liE l = 0) {known : List Bool} (hk : known.length = l.bodies.length) {g : Gr} (h : nextG l known = some g) : ∃ x bs, g.bodies = x :: bs /\ known[x.toNat]? = some false := by
 unfold nextG at h
 cases h1 : driverG l known with
 | some g' =>
  rw [h1] at h; cases h
  unfold driverG at h1
  rw [map_eq_some_iff] at h1
  obtain ⟨i,hi,rfl⟩ := h1
  obtain ⟨h2,h3⟩ := abm hi
  obtain ⟨d,hd⟩ := ab6 h2
  have h4 := aim (ayo hl hd)
  rw [aar hd] at *
  unfold drHit at h3
  rw [aar hd] at h3
  simp only [Bool.not_eq_false',and_eq_true,Bool.not_eq_true',decide_eq_true_eq] at h3
  exact ⟨_,_,rfl,a4d h3.1 (by omega)⟩
 | none =>
  rw [h1] at h
  cases h2 : pairG l known with
  | some g' =>
   rw [h2] at h; cases h
   unfold pairG at h2
   rw [map_eq_some_iff] at h2
   obtain ⟨i,hi,h2⟩ := h2
   obtain ⟨h3,h4⟩ := abm hi
   split at h2
   ·rename_i k hk'
    subst h2
    unfold prAt at hk'
    rw [map_eq_some_iff] at hk'
    obtain ⟨k',hk',rfl⟩ := hk'
    obtain ⟨h5,h6⟩ := abm hk'
    unfold prHit freeB at h6
    simp only [Bool.not_eq_false',and_eq_true,Bool.not_eq_true',decide_eq_true_eq] at h6
    exact ⟨_,_,rfl,a4d h6.1.1.1 (by omega)⟩
   ·rename_i hk'; rw [hk'] at h4; cases h4
  | none =>
   rw [h2] at h
   have h : singleG l known = some g := h
   unfold singleG at h
   rw [map_eq_some_iff] at h
   obtain ⟨i,hi,rfl⟩ := h
   obtain ⟨h3,h4⟩ := abm hi
   unfold sgHit freeB at h4
   simp only [Bool.not_eq_false',and_eq_true,Bool.not_eq_true',decide_eq_true_eq] at h4
   exact ⟨_,_,rfl,a4d h4.1.1 (by omega)⟩
theorem agd {l : Li} (hl : liE l = 0) {known : List Bool} (hk : known.length = l.bodies.length) {g : Gr} (h : nextG l known = some g) : unk (aao known g.bodies) < unk known := by
 obtain ⟨x,bs,e,h1⟩ := a24 hl hk h
 rw [e]; exact a6d h1
theorem agr {l : Li} (hl : liE l = 0) : ∀ (n m : Nat) (known : List Bool) (out : List Gr), known.length = l.bodies.length -> unk known <= n -> unk known <= m -> findFrom l n known out = findFrom l m known out
 | 0,0,known,out,hk,h1,h2 => rfl
 | 0, m + 1, known, out, hk, h1, h2 => by
  unfold findFrom
  cases hg : nextG l known with
  | none => rfl
  | some g => have := agd hl hk hg; omega
 | n + 1, 0, known, out, hk, h1, h2 => by
  unfold findFrom
  cases hg : nextG l known with
  | none => rfl
  | some g => have := agd hl hk hg; omega
 | n + 1, m + 1, known, out, hk, h1, h2 => by
  unfold findFrom
  cases hg : nextG l known with
  | none => rfl
  | some g =>
   have := agd hl hk hg
   exact agr hl n m _ _ (by rw [aer]; exact hk) (by omega) (by omega)
theorem af2 {l : Li} : ∀ (n : Nat) (known : List Bool) (out : List Gr), ∃ gs, findFrom l n known out = (gs.foldl (fun k g => aao k g.bodies) known, out ++ gs)
 | 0,known,out => ⟨[],by simp [findFrom]⟩
 | n + 1, known, out => by
  unfold findFrom
  cases hg : nextG l known with
  | none => exact ⟨[],by simp⟩
  | some g =>
   obtain ⟨gs,e⟩ := af2 n (aao known g.bodies) (out ++ [g])
   exact ⟨g :: gs,by show findFrom l n _ _ = _; rw [e]; simp⟩
theorem ayq (l : Li) : findFrom l l.bodies.length (adv l.bodies.length 0) [] = (ac2 l, findG l) := by
 obtain ⟨gs,e⟩ := af2 (l := l) l.bodies.length (adv l.bodies.length 0) []
 unfold ac2 findG
 rw [e]; simp
theorem ax4 {k : List Bool} : (ab5 k).length = 0 ↔ k.contains false = false := by
 unfold ab5
 rw [length_map,List.length_eq_zero_iff,List.filter_eq_nil_iff]
 constructor
 ·intro h
  rw [<- Bool.not_eq_true,List.contains_iff_mem]
  intro hm
  obtain ⟨i,hi⟩ := List.mem_iff_getElem?.1 hm
  have hlt := (List.getElem?_eq_some_iff.1 hi).1
  have := h i (List.mem_range.2 hlt)
  rw [getD_eq_getElem?_getD,hi] at this
  simp at this
 ·intro h i hi
  rw [<- Bool.not_eq_true,List.contains_iff_mem] at h
  intro hc
  have hlt := List.mem_range.1 hi
  rw [getD_eq_getElem?_getD,getElem?_eq_getElem hlt] at hc
  simp at hc
  exact h (hc ▸ List.getElem_mem hlt)
theorem akx : Sub (.agg [.v (.int .i64 0),.v (.slice none 0 0),.v (.slice none 0 0),.v (.int .i64 0)]) (Gr.av default) := .agg (.cons (.refl _) (.cons (.nil _ _ _) (.cons (.nil _ _ _) (.cons (.refl _) .nil)))) rfl
theorem bel {z : Int} (h : aaa .geq z 0 = true) : 0 <= z := of_decide_eq_true h
theorem bdq {z : Int} (h : aaa .geq z 0 = false) : ¬ 0 <= z := of_decide_eq_false h
theorem ari {a b c : Int} : cond (cond (aaa .geq a 0) (aaa .geq b 0) false) (aaa .geq c 0) false = (decide (0 <= a) && decide (0 <= b) && decide (0 <= c)) := by
 have e : ∀ z : Int,aaa .geq z 0 = decide (0 <= z) := fun z => rfl
 rw [e,e,e,adr,adr]
theorem bfg {a b : Int} : cond (aaa .lss a 0) true (aaa .lss b 0) = !(decide (0 <= a) && decide (0 <= b)) := by
 have e : ∀ z : Int,aaa .lss z 0 = !decide (0 <= z) := fun z => by rw [<- decide_not]; exact decide_eq_decide.2 (by omega)
 rw [e,e,agm,Bool.not_and]
theorem bep {a b : Int} (h : cond (aaa .lss a 0) true (aaa .lss b 0) = true) : (decide (0 <= a) && decide (0 <= b)) = false:=by rw [bfg] at h; exact aeb h
theorem bdk {a b : Int} (h : cond (aaa .lss a 0) true (aaa .lss b 0) = false) : 0 <= a /\ 0 <= b := by
 rw [bfg] at h
 have := aea h
 simpa using this
end Go.Lw
namespace Go.Lw
structure TieO (l : Li) (kind : Int) (bs : List Int) (z b : Int) (j : Jt) : Prop where
  hz : 0 <= z
  hj : l.joints[z.toNat]? = some j
  kd : j.kind = kind
  tie : (j.a = b /\ j.b ∉ bs) \/ (j.b = b /\ j.a ∉ bs)
inductive DyK (l : Li) : Gr -> Prop where
  | drv {b z d : Int} {j : Jt} {x : Dr} (t : TieO l 0 [b] z b j) (d0 : 0 <= d) (hd : l.drivers[d.toNat]? = some x) (hb : x.body = b) : DyK l ⟨0,[b],[z],d⟩
  | rrr {i k z0 z1 z2 : Int} {j0 j1 j2 : Jt} (ne : i ≠ k) (t0 : TieO l 0 [i, k] z0 i j0) (t1 : TieO l 0 [i, k] z1 k j1) (h0 : 0 <= z2) (h2 : l.joints[z2.toNat]? = some j2) (kd : j2.kind = 0)
      (tie : (j2.a = i /\ j2.b = k) \/ (j2.b = i /\ j2.a = k)) : DyK l ⟨1,[i,k],[z0,z1,z2],0⟩
  | pr {i z0 z1 : Int} {j0 j1 : Jt} (t0 : TieO l 0 [i] z0 i j0) (t1 : TieO l 1 [i] z1 i j1) (ha : j1.a = i) : DyK l ⟨2,[i],[z0,z1],0⟩
  | rp {i z0 z1 : Int} {j0 j1 : Jt} (t0 : TieO l 0 [i] z0 i j0) (t1 : TieO l 1 [i] z1 i j1) (ha : j1.a ≠ i) : DyK l ⟨3,[i],[z0,z1],0⟩
theorem asl {l : Li} {kind b : Int} {oth : List Bool} (h : 0 <= jointI l kind b oth) :
  ∃ (i : Nat) (j : Jt),jointI l kind b oth = (i : Int) /\ l.joints[i]? = some j /\ j.kind = kind /\ ((j.a = b /\ kn oth j.b = true) \/ (j.b = b /\ kn oth j.a = true)) := by
 unfold jointI at h ⊢
 cases hf : ac1 l.joints.length (fun i => !a5c kind b oth (l.joints.getD i default)) with
 | none => rw [hf] at h; exact absurd h (by decide)
 | some i =>
  obtain ⟨h1,h2⟩ := abm hf
  obtain ⟨j,hj⟩ := ab6 h1
  rw [aar hj] at h2
  unfold a5c at h2
  simp only [Bool.not_eq_false',and_eq_true,or_eq_true,decide_eq_true_eq] at h2
  exact ⟨i,j,rfl,hj,h2.1,h2.2⟩
theorem ar1 {l : Li} {kind b : Int} {known : List Bool} {bs : List Int} (hb : ∀ x ∈ bs, kn known x = false) (h : 0 <= jointI l kind b known) : ∃ j, TieO l kind bs (jointI l kind b known) b j := by
 obtain ⟨i,j,e,hj,hk,ht⟩ := asl h
 have hn : ∀ x,kn known x = true -> x ∉ bs := fun x hx hm => by rw [hb x hm] at hx; cases hx
 refine ⟨j,h,by rw [e,toNat_natCast]; exact hj,hk,?_⟩
 rcases ht with ⟨h1,h2⟩ | ⟨h1,h2⟩
 ·exact .inl ⟨h1,hn _ h2⟩
 ·exact .inr ⟨h1,hn _ h2⟩
theorem ap5 {l : Li} {known : List Bool} {b : Int} (h : freeB l known b = true) : kn known b = false := by
 unfold freeB at h
 simp only [and_eq_true,Bool.not_eq_true'] at h
 exact h.1
theorem a1r {known : List Bool} {b : Int} (h : kn known b = false) : ∀ x ∈ [b],kn known x = false := fun x hx => by rw [List.mem_singleton.1 hx]; exact h
theorem azj {l : Li} (hl : liE l = 0) {known : List Bool} {g : Gr} (h : driverG l known = some g) : DyK l g := by
 unfold driverG at h
 rw [map_eq_some_iff] at h
 obtain ⟨i,hi,rfl⟩ := h
 obtain ⟨h1,h2⟩ := abm hi
 obtain ⟨d,hd⟩ := ab6 h1
 unfold drHit at h2
 simp only [Bool.not_eq_false',and_eq_true,decide_eq_true_eq,Bool.not_eq_true'] at h2
 rw [aar hd] at h2 ⊢
 obtain ⟨j,hj⟩ := ar1 (a1r h2.1) h2.2
 exact .drv hj (by omega) (by rw [toNat_natCast]; exact hd) rfl
theorem a56 {l : Li} (hl : liE l = 0) {known : List Bool} {g : Gr} (h : pairG l known = some g) : DyK l g := by
 unfold pairG at h
 rw [map_eq_some_iff] at h
 obtain ⟨i,hi,h⟩ := h
 obtain ⟨h1,h2⟩ := abm hi
 split at h
 ·rename_i k hk
  subst h
  unfold prAt at hk
  rw [map_eq_some_iff] at hk
  obtain ⟨k',hk',rfl⟩ := hk
  obtain ⟨h3,h4⟩ := abm hk'
  rw [show i + 1 + k' = k' + (i + 1) by omega] at h4
  unfold prHit at h4
  simp only [Bool.not_eq_false',and_eq_true,decide_eq_true_eq] at h4
  obtain ⟨⟨f1,f2⟩,⟨j1,j2⟩,j3⟩ := h4
  have hb : ∀ x ∈ [(i : Int), ((k' + (i + 1) : Nat) : Int)], kn known x = false := fun x hx => by
   simp only [mem_cons,not_mem_nil,or_false] at hx
   rcases hx with rfl | rfl
   ·exact ap5 f1
   ·exact ap5 f2
  obtain ⟨a0,t0⟩ := ar1 hb j1
  obtain ⟨a1,t1⟩ := ar1 hb j2
  obtain ⟨n,a2,e,hj,hkd,ht⟩ := asl j3
  obtain ⟨i1,i2,_⟩ := a6y hl hj
  have i1 := (aim i1).1
  have i2 := (aim i2).1
  refine .rrr (by omega) t0 t1 j3 (by rw [e,toNat_natCast]; exact hj) hkd ?_
  rcases ht with ⟨e1,e2⟩ | ⟨e1,e2⟩
  ·rw [aub i2 (by omega) (by omega)] at e2
   exact .inl ⟨e1,of_decide_eq_true e2⟩
  ·rw [aub i1 (by omega) (by omega)] at e2
   exact .inr ⟨e1,of_decide_eq_true e2⟩
 ·rename_i hk; rw [hk] at h2; cases h2
theorem ay0 {l : Li} {known : List Bool} {g : Gr} (h : singleG l known = some g) : DyK l g := by
 unfold singleG at h
 rw [map_eq_some_iff] at h
 obtain ⟨i,hi,rfl⟩ := h
 obtain ⟨h1,h2⟩ := abm hi
 unfold sgHit at h2
 simp only [Bool.not_eq_false',and_eq_true,decide_eq_true_eq] at h2
 obtain ⟨f1,j1,j2⟩ := h2
 obtain ⟨a0,t0⟩ := ar1 (a1r (ap5 f1)) j1
 obtain ⟨a1,t1⟩ := ar1 (a1r (ap5 f1)) j2
 unfold sgG
 rw [aar t1.hj]
 by_cases e : a1.a = i
 ·rw [if_pos e]; exact .pr t0 t1 e
 ·rw [if_neg e]; exact .rp t0 t1 e
theorem a53 {l : Li} (hl : liE l = 0) {known : List Bool} {g : Gr} (h : nextG l known = some g) : DyK l g := by
 unfold nextG at h
 cases h1 : driverG l known with
 | some g' => rw [h1] at h; cases h; exact azj hl h1
 | none =>
  rw [h1] at h
  cases h2 : pairG l known with
  | some g' => rw [h2] at h; cases h; exact a56 hl h2
  | none => rw [h2] at h; exact ay0 h
theorem amk {l : Li} (hl : liE l = 0) : ∀ (n : Nat) (known : List Bool) (out : List Gr), (∀ g ∈ out, DyK l g) -> ∀ g ∈ (findFrom l n known out).2, DyK l g
 | 0,known,out,h => h
 | n + 1, known, out, h => by
  unfold findFrom
  cases hg : nextG l known with
  | none => exact h
  | some g => exact amk hl n (aao known g.bodies) (out ++ [g]) (fun x hx => by
    rcases List.mem_append.1 hx with hx | hx
    ·exact h x hx
    ·rw [List.mem_singleton.1 hx]; exact a53 hl hg)
theorem a4n {l : Li} (hl : liE l = 0) {g : Gr} (h : g ∈ splitG l) : DyK l g /\ GrOk l g := by
 unfold splitG at h
 split at h
 ·exact ⟨amk hl _ _ _ (fun g hg => by cases hg) g h,(akb hl).1 g h⟩
 ·cases h
end Go.Lw
namespace Go.Lw
theorem an8 (e : Nat) (l : List Nat) : ae3 (e :: l) = if e ≠ 0 then e else ae3 l := rfl
theorem am2 {α : Type} {f : α -> Nat} {L : List α} (h : ∀ x ∈ L, f x = 0) : ae3 (L.map f) = 0 := by
 induction L with
 | nil => rfl
 | cons x L ih =>
  rw [map_cons,an8,if_neg (by rw [h x (mem_cons_self ..)]; simp)]
  exact ih (fun y hy => h y (mem_cons_of_mem _ hy))
def anc (g : Gr) (j : Jt) : Int := if g.bodies.contains j.a = true then (if g.bodies.contains j.b = true then -1 else j.b) else j.a
def ay9 (l : Li) (g : Gr) : List Int := g.joints.map (fun j => anc g (l.joints.getD j.toNat default))
theorem a03 (l : Li) (g : Gr) : (ay9 l g).length = g.joints.length:=by unfold ay9; rw [length_map]
section
variable {l : Li} {k : Int} {a : As} {own : Bool}
end
end Go.Lw
namespace Go.Lw
open Go.Proofs
end Go.Lw
namespace Go.Lw
open Go.Proofs
end Go.Lw
namespace Go.Lw
end Go.Lw
namespace Go.Lw
open Go.Proofs
section
variable {rs : List (List Rt)} {r u k : Nat} {a b c d e : List Rat} {x y z s t : Et (llq rs)} {w v w' v' w2 v2 w3 v3 w4 v4 : Nat}
end
end Go.Lw
namespace Go.Lw
section
variable (l : Li) (a : As)
end
section
variable {l : Li} {a : As} {g : Gr}
end
end Go.Lw
namespace Go.Lw
section
variable {ts : List (List Rat)}
end
section
variable {l : Li} {a : As} {g : Gr}
end
end Go.Lw
namespace Go.Lw
structure Ld where
  body : Int
  x : Rt
  y : Rt
  fx : Rt
  fy : Rt
  m : Rt
instance : Inhabited Ld := ⟨⟨0,⟨false,[],[]⟩,⟨false,[],[]⟩,⟨false,[],[]⟩,⟨false,[],[]⟩,⟨false,[],[]⟩⟩⟩
def Ld.l (f : Ld) : List Rt := [f.x,f.y,f.fx,f.fy,f.m]
def Ld.cells (f : Ld) : List AV := [i64 f.body,bl f.x.neg,ws f.x.num,ws f.x.den,bl f.y.neg,ws f.y.num,ws f.y.den,bl f.fx.neg,ws f.fx.num,ws f.fx.den,bl f.fy.neg,ws f.fy.num,ws f.fy.den,bl f.m.neg,ws f.m.num,ws f.m.den]
def Ld.av (f : Ld) : AV := .agg f.cells
section
variable (a : As)
end
section
variable {a : As} {r : List Vr}
end
end Go.Lw
namespace Go.Lw
structure LdOk (f : Ld) : Prop where
  ok : ∀ x ∈ f.l,x.ok
  qb : ∀ x ∈ f.l,Qb 4000 x.q
def bix (f : Ld) : Prop := ∀ x ∈ f.l,x.ok /\ Qb 1000 x.q
theorem bix.o {f : Ld} (h : bix f) : LdOk f := ⟨fun x hx => (h x hx).1,fun x hx => (h x hx).2.mono (by omega)⟩
theorem ayh {α : Type} {g : α -> Nat} {xs : List α} {j : Nat} {b : α} (hb : xs[j]? = some b) (hj : ∀ c ∈ xs.take j, g c = 0) (hn : g b ≠ 0) : ae3 (xs.map g) = g b := by
 have h1 : xs = xs.take j ++ b :: xs.drop (j + 1) := by
  obtain ⟨hi,e⟩ := List.getElem?_eq_some_iff.1 hb
  rw [<- e,<- List.drop_eq_getElem_cons hi,List.take_append_drop]
 rw [h1,map_append,aik _ _ (am2 hj),map_cons,an8,if_pos hn]
end Go.Lw
namespace Go.Lw
structure Bulk {H : Type} (bk : DataW H -> Nat) (bka : List (DataW H) -> Nat) : Prop where
  one : ∀ d,1 <= bk d
  nil : bka [] = 0
  cons : ∀ d l,bka (d :: l) = bk d + bka l
  slice : ∀ e s,bka e + 1 <= bk (.slice e s)
  agg : ∀ l,bka l <= bk (.agg l)
section
variable {P : Program} {W : World} {H : Type} {enc : TypeId × Value -> H} {bk : DataW H -> Nat} {bka : List (DataW H) -> Nat}
theorem Bulk.pick (B : Bulk bk bka) {α : Type} {m : α -> Nat} : ∀ {l : List α} {xs : List (DataW H)}, l.length <= xs.length -> (∀ (i : Nat) (a : α), l[i]? = some a -> ∃ x, xs[i]? = some x /\ m a <= bk x) -> (l.map m).sum <= bka xs
 | [],xs,_,_ => by simp
 | a :: l,[],hl,_ => by simp at hl
 | a :: l, x :: xs, hl, h => by
  obtain ⟨y,hy,h1⟩ := h 0 a rfl
  cases hy
  have h2 := B.pick (l := l) (xs := xs) (by simpa using hl) (fun i b hb => h (i + 1) b hb)
  rw [B.cons,map_cons,List.sum_cons]
  omega
def as6 (P : Program) (W : World) (enc : TypeId × Value -> H) (bk : DataW H -> Nat) (t : TypeId) {α : Type} (f : α -> AV) (p : α -> Prop) (m : α -> Nat) : Prop :=
  ∀ (sp : Nat -> Bool) (fuel : Nat) (cs : List Value) (x : DataW H × List MemPlace),DataW.trod enc P W 0 sp true fuel t cs = some x -> (∀ n ∈ x.1.weights P t,n <= reachBytes) -> ∃ a,p a /\ CRp W cs (f a).cells /\ m a <= bk x.1
theorem adz.m {t : TypeId} {α : Type} {f : α -> AV} {p : α -> Prop} (h : adz P W enc t f p) : as6 P W enc bk t f p (fun _ => 0) := by
 intro sp fuel cs x hx hw
 obtain ⟨a,h1,h2⟩ := h sp fuel cs x hx hw
 exact ⟨a,h1,h2,zero_le _⟩
theorem adz.m1 (B : Bulk bk bka) {t : TypeId} {α : Type} {f : α -> AV} {p : α -> Prop} (h : adz P W enc t f p) : as6 P W enc bk t f p (fun _ => 1) := by
 intro sp fuel cs x hx hw
 obtain ⟨a,h1,h2⟩ := h sp fuel cs x hx hw
 exact ⟨a,h1,h2,B.one _⟩
theorem as6.map {α β : Type} {t : TypeId} {f : α -> AV} {p : α -> Prop} {m : α -> Nat} (h : as6 P W enc bk t f p m) (g : α -> β) (f' : β -> AV) (p' : β -> Prop) (m' : β -> Nat) (hg : ∀ a, p a -> p' (g a) /\ f' (g a) = f a /\ m' (g a) <= m a) : as6 P W enc bk t f' p' m' := by
 intro sp fuel cs x hx hwt
 obtain ⟨a,ha,hc,hm⟩ := h sp fuel cs x hx hwt
 obtain ⟨h1,h2,h3⟩ := hg a ha
 exact ⟨g a,h1,by rw [h2]; exact hc,le_trans h3 hm⟩
end
end Go.Lw
namespace Go.Lw
open Go.Proofs
section
variable {W : World} {H : Type} {enc : TypeId × Value -> H}
theorem beo : adz prog W enc 271 (fun n : Nat => u32 n) (fun n => n < 4294967296) :=
 (aru (k := .u32) Tryz.underlying271).map Int.toNat _ _ (fun n h => by
  have h1 : 0 <= n /\ n <= 4294967295:=by simpa [Lit.wf,IntKind.min,IntKind.max,IntKind.signed,IntKind.bits] using h
  have h2 : ((n.toNat : Nat) : Int) = n:=by omega
  exact ⟨by omega,by unfold u32; rw [h2]⟩)
theorem beb : adz prog W enc 80 ws (fun l => Ws l /\ l.length <= 281474976710656) :=
 (aef Tryz.underlying80 (n := 1) (by kernel_rfl) (by omega) (by kernel_rfl) beo (fun _ => rfl)).map id _ _ (fun l h => ⟨⟨fun x hx => h.1 x hx,h.2⟩,rfl⟩)
theorem a0k : adz prog W enc 4 bl (fun _ => True) := ayx Tryz.underlying4
theorem amn : adz prog W enc 3 i64 (fun _ => True) := (aru (k := .i64) Tryz.underlying3).map id _ _ (fun n h => ⟨trivial,rfl⟩)
theorem asx : adz prog W enc 9 (fun s : ByteArray => AV.v (.string s)) (fun s => s.size <= 281474976710656) := atq Tryz.underlying9
theorem a18 : adz prog W enc 82 Rt.av Rt.wok :=
 (acz (n := 3) Tryz.underlying82 (by kernel_rfl)
  (.cons rfl (n := 1) (by kernel_rfl) a0k (fun _ => rfl) (.cons rfl (n := 1) (by kernel_rfl) beb (fun _ => rfl) (.cons rfl (n := 1) (by kernel_rfl) beb (fun _ => rfl) (.nil _)))) (fun _ => rfl)).map
  (fun z => ⟨z.1,z.2.1,z.2.2.1⟩) _ _ (fun z h => ⟨⟨h.2.1.1,h.2.2.1.1⟩,rfl⟩)
theorem bav : adz prog W enc 84 Tn.av (fun x => x.t.wok) :=
 (acz (n := 4) Tryz.underlying84 (by kernel_rfl) (.cons rfl (n := 3) (by kernel_rfl) a18 (fun _ => rfl) (.cons rfl (n := 1) (by kernel_rfl) a0k (fun _ => rfl) (.nil _))) (fun _ => rfl)).map
  (fun z => ⟨z.1,z.2.1⟩) _ _ (fun z h => ⟨h.1,rfl⟩)
theorem awg : adz prog W enc 55 (fun l : List Tn => .lst 4 (l.map Tn.av)) (fun l => (∀ x ∈ l, x.t.wok) /\ l.length <= 281474976710656) :=
 aef Tryz.underlying55 (n := 4) (by kernel_rfl) (by omega) (by kernel_rfl) bav (fun _ => rfl)
theorem bb8 : adz prog W enc 120 Mk.av (fun m => m.name.size <= 281474976710656 /\ m.x.wok /\ m.y.wok) :=
 (acz (n := 7) Tryz.underlying120 (by kernel_rfl)
  (.cons rfl (n := 1) (by kernel_rfl) asx (fun _ => rfl) (.cons rfl (n := 3) (by kernel_rfl) a18 (fun _ => rfl) (.cons rfl (n := 3) (by kernel_rfl) a18 (fun _ => rfl) (.nil _)))) (fun _ => rfl)).map
  (fun z => ⟨z.1,z.2.1,z.2.2.1⟩) _ _ (fun z h => ⟨⟨h.1,h.2.1,h.2.2.1⟩,rfl⟩)
theorem bcp : adz prog W enc 118 Bd.av (fun b => b.name.size <= 281474976710656 /\ b.pts.length <= 281474976710656 /\ ∀ m ∈ b.pts, m.name.size <= 281474976710656 /\ m.x.wok /\ m.y.wok) :=
 (acz (n := 2) Tryz.underlying118 (by kernel_rfl)
  (.cons rfl (n := 1) (by kernel_rfl) asx (fun _ => rfl) (.cons rfl (n := 1) (by kernel_rfl) (aef Tryz.underlying116 (n := 7) (by kernel_rfl) (by omega) (by kernel_rfl) bb8 (fun _ => rfl)) (fun _ => rfl) (.nil _))) (fun _ => rfl)).map
  (fun z => ⟨z.1,z.2.1⟩) _ _ (fun z h => ⟨⟨h.1,h.2.1.2,h.2.1.1⟩,rfl⟩)
theorem a7x : adz prog W enc 157 Jt.av (fun j => j.name.size <= 281474976710656) :=
 (acz (n := 7) Tryz.underlying157 (by kernel_rfl)
  (.cons rfl (n := 1) (by kernel_rfl) asx (fun _ => rfl) (.cons rfl (n := 1) (by kernel_rfl) amn (fun _ => rfl) (.cons rfl (n := 1) (by kernel_rfl) amn (fun _ => rfl) (.cons rfl (n := 1) (by kernel_rfl) amn (fun _ => rfl)
   (.cons rfl (n := 1) (by kernel_rfl) amn (fun _ => rfl) (.cons rfl (n := 1) (by kernel_rfl) amn (fun _ => rfl) (.cons rfl (n := 1) (by kernel_rfl) amn (fun _ => rfl) (.nil _)))))))) (fun _ => rfl)).map
  (fun z => ⟨z.1,z.2.1,z.2.2.1,z.2.2.2.1,z.2.2.2.2.1,z.2.2.2.2.2.1,z.2.2.2.2.2.2.1⟩) _ _ (fun z h => ⟨h.1,rfl⟩)
theorem a2b : adz prog W enc 190 Dr.av (fun d => d.name.size <= 281474976710656) :=
 (acz (n := 2) Tryz.underlying190 (by kernel_rfl) (.cons rfl (n := 1) (by kernel_rfl) asx (fun _ => rfl) (.cons rfl (n := 1) (by kernel_rfl) amn (fun _ => rfl) (.nil _))) (fun _ => rfl)).map
  (fun z => ⟨z.1,z.2.1⟩) _ _ (fun z h => ⟨h.1,rfl⟩)
abbrev liG (l : Li) : List AV := [.v (.string l.name),.lst 2 (l.bodies.map Bd.av),.lst 7 (l.joints.map Jt.av),.lst 2 (l.drivers.map Dr.av)]
theorem a17 : adz prog W enc 26 (fun l : Li => .agg (liG l)) Li.okw :=
 (acz (n := 4) Tryz.underlying26 (by kernel_rfl)
  (.cons rfl (n := 1) (by kernel_rfl) asx (fun _ => rfl)
   (.cons rfl (n := 1) (by kernel_rfl) (aef Tryz.underlying22 (n := 2) (by kernel_rfl) (by omega) (by kernel_rfl) bcp (fun _ => rfl)) (fun _ => rfl)
    (.cons rfl (n := 1) (by kernel_rfl) (aef Tryz.underlying23 (n := 7) (by kernel_rfl) (by omega) (by kernel_rfl) a7x (fun _ => rfl)) (fun _ => rfl)
     (.cons rfl (n := 1) (by kernel_rfl) (aef Tryz.underlying24 (n := 2) (by kernel_rfl) (by omega) (by kernel_rfl) a2b (fun _ => rfl)) (fun _ => rfl) (.nil _))))) (fun _ => rfl)).map
  (fun z => ⟨z.1,z.2.1,z.2.2.1,z.2.2.2.1⟩) _ _ (fun z h => ⟨⟨h.1,h.2.1.1,h.2.2.1.1,h.2.2.2.1.1,h.2.1.2,h.2.2.1.2,h.2.2.2.1.2⟩,rfl⟩)
end
end Go.Lw
namespace Go.Lw
open Go.Proofs Go.Proofs.YtjidoooidfcjgaaGreat
open Go.ChangeShapes Go.WideShapes Go.ChangeAt Go.RowKit
theorem own : ownKnob prog.godebug = none:=by kernel_rfl
theorem at8 : laidOutB prog = true:=by kernel_rfl
theorem aw5 : prog.stopsHeard = true:=by kernel_rfl
theorem awh : prog.plainKeys = true:=by kernel_rfl
theorem a05 : mapsRowed prog = true:=by kernel_rfl
theorem awj : prog.mayEnter = true:=by kernel_rfl
theorem ax7 : prog.liftsFinal = false:=by kernel_rfl
theorem ar8 {v : Value} (h : ∀ cs, v ≠ .agg cs) : v.cells = #[v] := by
 cases v <;> first | rfl | exact absurd rfl (h _)
theorem ali {P : Program} {W : World} {r : Reach} {b0 : Nat} {t e : TypeId} {v : Value} (ht : P.underlying t = some (.slice e)) (hval : Value.okWide P W r b0 t v) : v.cells = #[v] := by
 refine ar8 (fun cs h => ?_)
 subst h
 unfold Value.okWide at hval
 rw [ht] at hval
 unfold Cell.okWide at hval
 rw [ht] at hval
 unfold Cell.ok at hval
 rw [ht] at hval
 exact hval
theorem amg {H : Type} {enc : TypeId × Value -> H} {W W' : World} {t : TypeId} {v : Value} {d : DataW H} {ps : List MemPlace} {sp' : Nat -> Bool} (hr : prog.readableRec t = true) (ht : t < prog.types.size)
  (h : DataW.Trod enc prog W 0 (fun _ => true) true t v d ps) (hb : Below W.heap.size W W') (hlt : ∀ x ∈ ps,x.block < W.heap.size) (hs : ∀ p ∈ ps,sp' p.block = true) : DataW.Trod enc prog W' 0 sp' true t v d ps :=
 WideElems.Trod_stays at8 hr ht h (fun x hx => hb.same (hlt x hx)) hs
end Go.Lw
namespace Go.Lw
variable {P : Program} {N : Nat} {R : Array Oper} {s : AS}
def vk : Value -> Nat
  | .int .i64 _ => 1
  | .string _ => 2
  | _ => 0
def bhi (P : Program) (t : TypeId) : Bool := match P.underlying t with | some .string => true | _ => false
theorem bfw {t : TypeId} (h : bhi P t = true) : P.underlying t = some .string := by
 unfold bhi at h
 split at h
 ·assumption
 ·cases h
def fOk (P : Program) (ks : List Nat) (f : Field) : Bool := f.name != "_" && (match ks[f.offset]? with | some 1 => a1b P f.type | some 2 => bhi P f.type | _ => false)
def bg2 (P : Program) (T : TypeId) (ks : List Nat) : Bool := match P.underlying T with
  | some (.struct fs) => fs.toList.all (fOk P ks) && !P.stoodInHeld T && !P.eqGuardType P.depth T
  | _ => false
theorem aiw {cs : List Value} {ks : List Nat} (hk : cs.map vk = ks) (w : World) : ∀ {fs : List Field}, fs.all (fOk P ks) = true -> (Op.eqFields 9999 cs.toArray cs.toArray fs).run P w = .ok true w
 | [],_ => rfl
 | f :: fs, h => by
  rw [List.all_cons,and_eq_true] at h
  obtain ⟨h1,h2⟩ := h
  have ih := aiw hk w h2
  unfold fOk at h1
  rw [and_eq_true] at h1
  obtain ⟨hn,h1⟩ := h1
  have n1 : f.name ≠ "_" := by simpa using hn
  have hc : ∀ k, ks[f.offset]? = some k -> ∃ v, cs[f.offset]? = some v /\ vk v = k := by
   intro k hk2
   rw [<- hk,getElem?_map,map_eq_some_iff] at hk2
   exact hk2
  split at h1
  ·rename_i e
   obtain ⟨v,hv,hvk⟩ := hc 1 e
   have hu := aug h1
   have e0 : cs.toArray[f.offset]? = some v:=by simpa using hv
   have e1 : (part f.type cs.toArray f.offset).run P w = .ok v w:=by simp [part,isAgg,run_underlying hu,e0]
   have : ∃ n,v = .int .i64 n:=by unfold vk at hvk; split at hvk; exact ⟨_,rfl⟩; cases hvk; cases hvk
   obtain ⟨n,rfl⟩ := this
   have e3 : (Op.equalIn 9999 f.type (.int .i64 n) (.int .i64 n)).run P w = .ok (n == n) w := run_equalIn_int w 9998 f.type .i64 .i64 n n hu
   simp only [Op.eqFields,n1,ne_eq,not_false_eq_true,if_true,Sem.run_bind,e1,e3,Result.andThen_ok,Sem.run_ite,beq_self_eq_true,Bool.not_true,Bool.false_eq_true,if_false,ih]
  ·rename_i e
   obtain ⟨v,hv,hvk⟩ := hc 2 e
   have hu := bfw h1
   have e0 : cs.toArray[f.offset]? = some v:=by simpa using hv
   have e1 : (part f.type cs.toArray f.offset).run P w = .ok v w:=by simp [part,isAgg,run_underlying hu,e0]
   have : ∃ n,v = .string n:=by unfold vk at hvk; split at hvk; cases hvk; exact ⟨_,rfl⟩; cases hvk
   obtain ⟨n,rfl⟩ := this
   have e3 : (Op.equalIn 9999 f.type (.string n) (.string n)).run P w = .ok (n.toList == n.toList) w := run_equalIn_string w 9998 f.type n n hu
   simp only [Op.eqFields,n1,ne_eq,not_false_eq_true,if_true,Sem.run_bind,e1,e3,Result.andThen_ok,Sem.run_ite,beq_self_eq_true,Bool.not_true,Bool.false_eq_true,if_false,ih]
  ·cases h1
theorem aou {T : TypeId} {cs : List Value} {ks : List Nat} (hk : cs.map vk = ks) (h : bg2 P T ks = true) (w : World) :
  (Op.equalIn 10000 T (.agg cs.toArray) (.agg cs.toArray)).run P w = .ok true w /\ P.eqGuardType P.depth T = false := by
 unfold bg2 at h
 split at h
 ·rename_i fs hu
  rw [and_eq_true,and_eq_true] at h
  obtain ⟨⟨h,h1⟩,h2⟩ := h
  have hF : P.fieldsOf T = fs:=by unfold Program.fieldsOf; rw [hu]
  have hs : P.stoodInHeld T = false:=by simpa using h1
  refine ⟨?_,by simpa using h2⟩
  rw [run_equalIn_struct w 9999 T _ _ (by rw [hF]; exact hu) hs,hF]
  exact aiw hk w h
 ·cases h
theorem axv {g : Nat -> Array Value -> Prop} {S : Nat -> Nat -> Prop} {m : Nat -> Option Nat} {u : Value} {cs : List Value} (h : Rep g S m u (.agg (cs.map .v))) : u = .agg cs.toArray := by
 cases h with
 | @agg _ vs _ hn h1 hrr =>
  rw [length_map] at hn
  congr 1
  refine Array.ext (by simpa using hn) (fun i hi hi2 => ?_)
  have hi3 : i < cs.length:=by simpa using hi2
  have r := hrr i vs[i] (.v cs[i]) (by simp [hi]) (by simp [hi3])
  have r2 : ∀ {y z : Value},Rep g S m y (.v z) -> y = z := fun h => by cases h; rfl
  rw [r2 r]; simp
theorem a8n {d : Nat} {x y : Operand} {cs : List Value} {ks : List Nat} {S T t : TypeId} {pos : String} {after : Array Edge} (hx : Ev s x (.agg (cs.map .v))) (hy : Ev s y (.agg (cs.map .v)))
  (hk : cs.map vk = ks) (hS : bg2 P S ks = true) (hN : Nat.blt d N = true) :
  Step P N R s ⟨some d,.binOp .neq S x y T,t,pos,after,none⟩ ⟨some (.v (.bool false)),[],aaj x ++ aaj y,[]⟩ :=
 aaw rfl rfl hN fun s' hag C m ac w hr => ⟨.bool false, by
  have h := axv ((hx.agree hag (fun _ h => List.mem_append.2 (.inl h))).rep hr)
  have h' := axv ((hy.agree hag (fun _ h => List.mem_append.2 (.inr h))).rep hr)
  obtain ⟨r1,r2⟩ := aou (T := S) hk hS w
  simp only [execOp,h,h',Sem.run_bind,run_eqGuard_agg w .neq S x y _ _ r2,Result.andThen_ok,run_neq_struct,r1,Sem.run_pure,Bool.not_true],.v _⟩
def bgj (P : Program) (t : TypeId) : Bool := match P.underlying t with | some (.slice _) => true | _ => false
theorem a70 {t : TypeId} (h : bgj P t = true) : ∃ e, P.underlying t = some (.slice e) := by
 unfold bgj at h
 split at h
 ·exact ⟨_,by assumption⟩
 ·cases h
theorem agj (w : World) (t e : TypeId) (a : Option Addr) (l c : Nat) (h : P.underlying t = some (.slice e)) : (binOp .eql t (.slice a l c) (.slice none 0 0)).run P w = .ok (.bool a.isNone) w := by
 simp only [binOp]
 simp [run_equal_slice_nil w t e a l c h]
theorem a0i {d : Nat} {x : Operand} {sz : Nat} {e : AV} {es : List AV} {S T t : TypeId} {pos : String} {after : Array Edge} (hx : Ev s x (.lst sz (e :: es))) (hS : bgj P S = true) (hN : Nat.blt d N = true) :
  Step P N R s ⟨some d,.binOp .eql S x (.const (.slice none 0 0)) T,t,pos,after,none⟩ ⟨some (.v (.bool false)),[],aaj x,[]⟩ :=
 aaw rfl rfl hN fun s' hag C m ac w hr => ⟨.bool false, by
  have h := (hx.agree hag (fun _ h => h)).rep hr
  obtain ⟨el,hel⟩ := a70 hS
  generalize hu : ac.eval x = y at h
  have hy : ∃ b l cap, y = .slice (some b) l cap := by
   cases h with
   | lst u hb hc hl hs h1 hu hrr => exact ⟨_,_,_,rfl⟩
  obtain ⟨b,l,cap,rfl⟩ := hy
  have e1 : ac.eval (.const (.slice none 0 0)) = .slice none 0 0 := rfl
  simp [execOp,hu,e1,eqGuard,agj w S el (some b) l cap hel],.v _⟩
theorem av5 {d : Nat} {x : Operand} {a : Option Addr} {l cap : Nat} {S T t : TypeId} {pos : String} {after : Array Edge} (hx : Ev s x (.v (.slice a l cap))) (hS : bgj P S = true) (hN : Nat.blt d N = true) :
  Step P N R s ⟨some d,.binOp .eql S x (.const (.slice none 0 0)) T,t,pos,after,none⟩ ⟨some (.v (.bool a.isNone)),[],aaj x,[]⟩ :=
 aaw rfl rfl hN fun s' hag C m ac w hr => ⟨.bool a.isNone, by
  have h := (hx.agree hag (fun _ h => h)).rep hr
  obtain ⟨el,hel⟩ := a70 hS
  generalize hu : ac.eval x = y at h
  cases h
  have e1 : ac.eval (.const (.slice none 0 0)) = .slice none 0 0 := rfl
  simp [execOp,hu,e1,eqGuard,agj w S el a l cap hel],.v _⟩
theorem ayd {f : FuncId} {sz : Nat} {r : AV} (h : ∀ (a : Option Addr) (cap : Nat), FnC P f [.v (.slice a 0 cap)] r) : FnC P f [.lst sz []] r :=
 ⟨(h none 0).ok, fun ext m w vs he hr hn hv => by
  have hn1 : vs.size = 1 := hn
  have h0 := hv 0 vs[0] (.lst sz []) (by simp [hn1]) rfl
  have hy : ∃ a cap, vs[0] = .slice a 0 cap := by
   generalize vs[0] = y at h0
   cases h0 with
   | lst0 a cap => exact ⟨_,_,rfl⟩
   | lst u hb hc hl hs h1 hu hrr => exact ⟨_,_,rfl⟩
  obtain ⟨a,cap,hy⟩ := hy
  refine (h a cap).ret ext m w vs he hr hn (fun j v x hv2 hx => ?_)
  match j,hx with
  | 0, hx =>
   cases hx
   have : v = .slice a 0 cap:=by rw [<- hy]; have := Array.getElem?_eq_some_iff.1 hv2; exact this.2.symm
   subst this
   exact .v _⟩
end Go.Lw
namespace Go.Lw
def ak8 (m : Mk) : Mk := ⟨m.name,rt m.x.q,rt (-m.y.q)⟩
def aov (b : Bd) : Bd := ⟨b.name,b.pts.map ak8⟩
def aop (l : Li) : Li := ⟨l.name,l.bodies.map aov,l.joints,l.drivers⟩
theorem ar5 (l : Li) : (aop l).bodies.length = l.bodies.length := length_map _
theorem a0h (bs : List Bd) (i : Nat) : (bs.map aov).getD i default = aov (bs.getD i default) := by
 rw [getD_eq_getElem?_getD,getD_eq_getElem?_getD,getElem?_map]
 cases bs[i]? with
 | none => rfl
 | some b => rfl
theorem bah (l : Li) (i : Int) : af8 (aop l) i = (af8 l i).map ak8 := by
 unfold af8 aop
 rw [a0h]; rfl
theorem bhk (ps : List Mk) (n : Nat) : ((ps.map ak8).getD n default).x.q = (ps.getD n default).x.q := by
 rw [getD_eq_getElem?_getD,getD_eq_getElem?_getD,getElem?_map]
 cases ps[n]? with
 | none => rfl
 | some m => exact agh _
theorem bhw (ps : List Mk) (n : Nat) : ((ps.map ak8).getD n default).y.q = -(ps.getD n default).y.q := by
 rw [getD_eq_getElem?_getD,getD_eq_getElem?_getD,getElem?_map]
 cases ps[n]? with
 | none => rfl
 | some m => exact agh _
theorem a91 (a b : Rat) : (-a = -b) ↔ a = b:=by constructor <;> intro h <;> grind
theorem bce (l : Li) (j : Jt) : jt0 (aop l) j = jt0 l j := by
 unfold jt0
 simp only [ar5,bah,length_map,bhk,bhw,a91]
theorem bd8 {ps : List Mk} {i : Nat} (hi : i < ps.length) (h : mkE ps i = 0) : mkE (ps.map ak8) i = 0 := by
 obtain ⟨m,hm⟩ := ab6 hi
 have e1 : (ps.map ak8).getD i default = ak8 m := aar (by rw [getElem?_map,hm]; rfl)
 have e2 : ps.getD i default = m := aar hm
 unfold mkE at h ⊢
 rw [e1]
 rw [e2] at h
 have e3 : (ps.map ak8).map Mk.name = ps.map Mk.name:=by rw [map_map]; rfl
 rw [e3]
 split at h
 ·cases h
 ·split at h
  ·cases h
  ·rename_i h1 h2
   have h1' : ¬ ahl (ak8 m).name = false := h1
   rw [if_neg h1',if_neg h2,if_pos ⟨aj5 _,aj5 _⟩]
theorem bff {bs : List Bd} {i : Nat} (h : bdE bs i = 0) : bdE (bs.map aov) i = 0 := by
 unfold bdE at h ⊢
 rw [a0h]
 have e3 : (bs.map aov).map Bd.name = bs.map Bd.name:=by rw [map_map]; rfl
 rw [e3]
 split at h
 ·cases h
 ·split at h
  ·cases h
  ·split at h
   ·cases h
   ·rename_i h1 h2 h3
    have e4 : (aov (bs.getD i default)).pts.length = (bs.getD i default).pts.length := length_map _
    have h1' : ¬ ahl (aov (bs.getD i default)).name = false := h1
    rw [if_neg h1',if_neg h2,e4,if_neg h3]
    exact acv (fun k hk => bd8 hk (adw h k hk))
theorem bc8 {l : Li} (h : liE l = 0) : liE (aop l) = 0 := by
 unfold liE at h ⊢
 have e1 : (aop l).name = l.name := rfl
 rw [e1,ar5]
 have e2 : akr (aop l) = akr l := by
  unfold akr jtE
  simp only [bce]; rfl
 have e3 : aqr (aop l) = aqr l := by
  unfold aqr drE
  simp only [ar5]; rfl
 rw [e2,e3]
 split at h
 ·cases h
 ·split at h
  ·cases h
  ·split at h
   ·cases h
   ·split at h
    ·rename_i h4; exact absurd h h4
    ·rename_i h1 h2 h3 h4
     have e5 : apj (aop l) = 0 := by
      have h5 : apj l = 0:=by omega
      unfold apj at h5 ⊢
      rw [ar5]
      exact acv (fun i hi => bff (adw h5 i hi))
     rw [if_neg h1,if_neg h2,if_neg h3,if_neg (by omega)]
     exact h
theorem bdz (m : Mk) : ak8 (ak8 m) = ⟨m.name, rt m.x.q, rt m.y.q⟩ := by
 unfold ak8
 simp only [agh,show -(-m.y.q) = m.y.q by grind]
theorem a43 {ps : List Mk} {i : Nat} {m : Mk} (hm : ps[i]? = some m) (h : mkE ps i = 0) : m.x.valid = true /\ m.y.valid = true := by
 have e2 : ps.getD i default = m := aar hm
 unfold mkE at h
 rw [e2] at h
 split at h
 ·cases h
 ·split at h
  ·cases h
  ·split at h
   ·rename_i h3; exact h3
   ·cases h
theorem awx {l : Li} (h : liE l = 0) : ∀ b ∈ l.bodies, ∀ m ∈ b.pts, m.x.valid = true /\ m.y.valid = true := by
 intro b hb m hm
 have h5 : apj l = 0 := by
  unfold liE at h
  split at h
  ·cases h
  ·split at h
   ·cases h
   ·split at h
    ·cases h
    ·split at h
     ·rename_i h4; exact absurd h h4
     ·omega
 obtain ⟨i,hi⟩ := List.getElem?_of_mem hb
 obtain ⟨k,hk⟩ := List.getElem?_of_mem hm
 have hil := (List.getElem?_eq_some_iff.1 hi).1
 have hkl := (List.getElem?_eq_some_iff.1 hk).1
 have h6 := adw h5 i hil
 unfold bdE at h6
 rw [aar hi] at h6
 split at h6
 ·cases h6
 ·split at h6
  ·cases h6
  ·split at h6
   ·cases h6
   ·exact a43 hk (adw h6 k hkl)
theorem bd0 {l : Li} (hl : l.ok) (h : liE l = 0) : aop (aop l) = l := by
 have e : (l.bodies.map aov).map aov = l.bodies := by
  rw [map_map]
  refine (List.map_congr_left (g := id) (fun b hb => ?_)).trans (map_id _)
  have e2 : (b.pts.map ak8).map ak8 = b.pts := by
   rw [map_map]
   refine (List.map_congr_left (g := id) (fun m hm => ?_)).trans (map_id _)
   obtain ⟨vx,vy⟩ := awx h b hb m hm
   have ok := (hl.bodies b hb).pts m hm
   show ak8 (ak8 m) = m
   rw [bdz,<- Rt.eq_rt ok.x vx,<- Rt.eq_rt ok.y vy]
  show (⟨b.name,(b.pts.map ak8).map ak8⟩ : Bd) = b
  rw [e2]
 show (⟨l.name,(l.bodies.map aov).map aov,l.joints,l.drivers⟩ : Li) = l
 rw [e]
def aoq (x : Tn) : Tn := ⟨rt (-x.t.q),x.half⟩
theorem a6z {x : Tn} (h : x.err = 0) : (aoq x).err = 0 := by
 unfold Tn.err at h ⊢
 split at h
 ·rename_i h1
  refine if_pos ⟨aj5 _,fun hh => ?_⟩
  show (rt (-x.t.q)).q = 0
  rw [agh,h1.2 hh]; rfl
 ·cases h
theorem bhu {x : Tn} (ho : x.t.ok) (h : x.err = 0) : aoq (aoq x) = x := by
 have hv : x.t.valid = true := by
  unfold Tn.err at h
  split at h
  ·rename_i h1; exact h1.1
  ·cases h
 unfold aoq
 simp only [agh,show -(-x.t.q) = x.t.q by grind]
 rw [<- Rt.eq_rt ho hv]
structure SameJ (l' l : Li) : Prop where
  j : l'.joints = l.joints
  d : l'.drivers = l.drivers
  b : l'.bodies.length = l.bodies.length
section
variable {l' l : Li} (h : SameJ l' l)
include h
theorem SameJ.jointI (kind body : Int) (oth : List Bool) : jointI l' kind body oth = jointI l kind body oth:=by unfold Lw.jointI; rw [h.j]
theorem SameJ.freeB (k : List Bool) (i : Int) : freeB l' k i = freeB l k i:=by unfold Lw.freeB ajl; rw [h.d]
theorem SameJ.drHit (k : List Bool) (i : Nat) : drHit l' k i = drHit l k i:=by unfold Lw.drHit; simp only [h.d,h.jointI]
theorem SameJ.driverG (k : List Bool) : driverG l' k = driverG l k:=by unfold Lw.driverG; simp only [h.d,h.jointI,h.drHit]
theorem SameJ.prHit (k : List Bool) (i j : Nat) : prHit l' k i j = prHit l k i j:=by unfold Lw.prHit; simp only [h.freeB,h.jointI,h.b]
theorem SameJ.prAt (k : List Bool) (i : Nat) : prAt l' k i = prAt l k i:=by unfold Lw.prAt; simp only [h.prHit,h.b]
theorem SameJ.prG (k : List Bool) (i j : Nat) : prG l' k i j = prG l k i j:=by unfold Lw.prG; simp only [h.jointI,h.b]
theorem SameJ.pairG (k : List Bool) : pairG l' k = pairG l k:=by unfold Lw.pairG; simp only [h.prAt,h.prG,h.b]
theorem SameJ.sgHit (k : List Bool) (i : Nat) : sgHit l' k i = sgHit l k i:=by unfold Lw.sgHit; simp only [h.freeB,h.jointI]
theorem SameJ.sgG (k : List Bool) (i : Nat) : sgG l' k i = sgG l k i:=by unfold Lw.sgG; simp only [h.jointI,h.j]
theorem SameJ.singleG (k : List Bool) : singleG l' k = singleG l k := by
 unfold Lw.singleG
 have e : Lw.sgG l' k = Lw.sgG l k := funext (h.sgG k)
 simp only [h.sgHit,h.b,e]
theorem SameJ.nextG (k : List Bool) : nextG l' k = nextG l k:=by unfold Lw.nextG; rw [h.driverG,h.pairG,h.singleG]
theorem SameJ.findFrom : ∀ (n : Nat) (k : List Bool) (out : List Gr), findFrom l' n k out = findFrom l n k out
 | 0,k,out => rfl
 | n + 1, k, out => by
  unfold Lw.findFrom
  rw [h.nextG]
  cases Lw.nextG l k with
  | none => rfl
  | some g => exact SameJ.findFrom n _ _
theorem SameJ.findG : findG l' = findG l:=by unfold Lw.findG; rw [h.b,h.findFrom]
theorem SameJ.splitE : splitE l' = splitE l:=by unfold Lw.splitE ac2 afn; rw [h.findG,h.b,h.j]
theorem SameJ.splitG : splitG l' = splitG l:=by unfold Lw.splitG; rw [h.splitE,h.findG]
end
theorem awp (l : Li) : SameJ (aop l) l := ⟨rfl,rfl,ar5 l⟩
end Go.Lw
namespace Go.Lw
def awf (xs : List Tn) : Nat := ae3 (xs.map Tn.err)
def ao1 (xs : List Tn) : List Tn := if awf xs = 0 then xs.map aoq else []
def tn0 : Tn := ⟨⟨false,[],[]⟩,false⟩
def a5f (x : Tn) : Tn := if x.err = 0 then aoq x else tn0
def li0 : Li := ⟨⟨#[]⟩,[],[],[]⟩
def a1t (l : Li) : Li := if liE l = 0 then aop l else li0
theorem arb {l : Li} (h : liE l = 0) : a1t l = aop l := if_pos h
theorem a3f {l : Li} (h : liE l ≠ 0) : a1t l = li0 := if_neg h
theorem axs {xs : List Tn} {i : Nat} {x : Tn} (hx : xs[i]? = some x) (hj : ∀ y ∈ xs.take i,y.err = 0) (hn : x.err ≠ 0) : awf xs = x.err := ayh hx hj hn
theorem bad {xs : List Tn} (h : ∀ y ∈ xs,y.err = 0) : awf xs = 0 := am2 h
theorem a1l {xs : List Tn} (h : awf xs = 0) : ∀ y ∈ xs,y.err = 0 := fun y hy => aek h _ (List.mem_map_of_mem hy)
theorem aq8 {xs : List Tn} (h : awf xs = 0) : ao1 xs = xs.map aoq := if_pos h
theorem au8 {xs : List Tn} (h : awf xs ≠ 0) : ao1 xs = [] := if_neg h
theorem art {xs : List Tn} (h : awf xs = 0) : awf (xs.map aoq) = 0 := bad fun y hy => by
 obtain ⟨x,hx,rfl⟩ := List.mem_map.1 hy
 exact a6z (a1l h x hx)
theorem be3 {xs : List Tn} (ho : ∀ x ∈ xs, x.t.ok) (h : awf xs = 0) : (xs.map aoq).map aoq = xs := by
 rw [map_map]
 exact (List.map_congr_left (g := id) (fun x hx => bhu (ho x hx) (a1l h x hx))).trans (map_id _)
theorem a09 {x : Tn} {e : Nat} (h : Qb e x.t.q) (he : e <= 1000) : (aoq x).t.ok := (h.neg.qs (by omega)).ok
theorem a89 {l : Li} (h : liE l = 0) : ∀ b ∈ l.bodies, b.pts.length <= 8 := by
 intro b hb
 have h5 : apj l = 0 := by
  unfold liE at h
  split at h
  ·cases h
  ·split at h
   ·cases h
   ·split at h
    ·cases h
    ·split at h
     ·rename_i h4; exact absurd h h4
     ·omega
 obtain ⟨i,hi⟩ := List.getElem?_of_mem hb
 have h6 := adw h5 i (List.getElem?_eq_some_iff.1 hi).1
 unfold bdE at h6
 rw [aar hi] at h6
 split at h6
 ·cases h6
 ·split at h6
  ·cases h6
  ·split at h6
   ·cases h6
   ·rename_i h7; omega
theorem bey {l : Li} (h : liE l = 0) : l.joints.length <= 16 /\ l.drivers.length <= 2 := by
 obtain ⟨_,h1,h2,_⟩ := abr h
 constructor
 ·unfold akr at h1
  split at h1
  ·cases h1
  ·omega
 ·unfold aqr at h2
  split at h2
  ·cases h2
  ·omega
theorem bcm {m : Mk} (h : m.ok) : (ak8 m).ok := ⟨(h.qx.qs (by omega)).ok,(h.qy.neg.qs (by omega)).ok,by show Qb 1000 (rt m.x.q).q; rw [agh]; exact h.qx,by show Qb 1000 (rt (-m.y.q)).q; rw [agh]; exact h.qy.neg⟩
theorem bcd {b : Bd} (h : b.ok) : (aov b).ok := by
 refine ⟨fun m hm => ?_,fun m hm => ?_,?_,h.name⟩
 ·obtain ⟨m',hm',rfl⟩ := List.mem_map.1 hm; exact bcm (h.pts m' hm')
 ·obtain ⟨m',hm',rfl⟩ := List.mem_map.1 hm; exact h.names m' hm'
 ·show (b.pts.map ak8).length <= _; rw [length_map]; exact h.ll
theorem avy {l : Li} (h : l.ok) : (aop l).ok := by
 refine ⟨h.name,fun b hb => ?_,h.jnames,h.dnames,?_,h.lj,h.ld⟩
 ·obtain ⟨b',hb',rfl⟩ := List.mem_map.1 hb; exact bcd (h.bodies b' hb')
 ·show (l.bodies.map aov).length <= _; rw [length_map]; exact h.lb
theorem a8d : li0.ok := ⟨by show 0 <= _; omega,fun b hb => (by cases hb),fun b hb => (by cases hb),fun b hb => (by cases hb),by show 0 <= _; omega,by show 0 <= _; omega,by show 0 <= _; omega⟩
theorem a55 {l : Li} (h : l.ok) : (a1t l).ok:=by unfold a1t; split; exact avy h; exact a8d
theorem bdg {l : Li} (hl : l.ok) (h : liE l = 0) {b : Bd} (hb : b ∈ l.bodies) {m : Mk} (hm : m ∈ b.pts) : m.x = rt m.x.q /\ m.y = rt m.y.q := by
 obtain ⟨vx,vy⟩ := awx h b hb m hm
 have ok := (hl.bodies b hb).pts m hm
 exact ⟨Rt.eq_rt ok.x vx,Rt.eq_rt ok.y vy⟩
def Jt.vs (j : Jt) : List Value := [.string j.name,.int .i64 j.kind,.int .i64 j.a,.int .i64 j.point,.int .i64 j.b,.int .i64 j.on,.int .i64 j.to]
def Dr.vs (d : Dr) : List Value := [.string d.name,.int .i64 d.body]
structure Gr.sm (g : Gr) : Prop where
  b : g.bodies.length <= 100
  j : g.joints.length <= 100
theorem bh4 {l : Li} (hl : liE l = 0) : (∀ g ∈ splitG l, g.sm) /\ (splitG l).length <= 100 := by
 refine ⟨fun g hg => ?_,?_⟩
 ·obtain ⟨_, ho⟩ := a4n hl hg
  have := ho.lb; have := ho.lj
  exact ⟨by omega,by omega⟩
 ·unfold splitG; split
  ·have := (akb hl).2; omega
  ·exact zero_le _
end Go.Lw
namespace Go.Lw
open Go.Proofs
abbrev liZ : List AV := [.v (.string ⟨#[]⟩),.v (.slice none 0 0),.v (.slice none 0 0),.v (.slice none 0 0)]
theorem adc {α β : Type} {f : α -> β} {g : β -> AV} {l : List α} {i : Nat} {x : α} (h : l[i]? = some x) : ((l.take (i + 1)).map f).map g = ((l.take i).map f).map g ++ [g (f x)] := by
 rw [aax h,map_append,map_append]; rfl
theorem ahb {α β : Type} {f : α -> β} {g : β -> AV} {l : List α} {i : Nat} (h : i <= l.length) : (((l.take i).map f).map g).length = i:=by rw [length_map,length_map,length_take]; omega
theorem av2 (x : Rt) (hx : x.ok) : FnC prog 110 [x.av] (qA x.q) := by
 have hadd := adp x (rt 0) hx Qs.zero.ok
 rw [bbp] at hadd
 refine gF0 func110 ?_
 refine gc (Con.subA (.cons (.refl _) (.cons ao9 .nil)) hadd) ?_
 refine gE1 ?_
 rfl
theorem a2m (e : AV) (es : List AV) (hc : ∀ x ∈ e :: es, x.cells.length = 7) (hl : (e :: es).length <= 1000) : FnC prog 108 [.lst 7 (e :: es)] (.lst 7 (e :: es)) := by
 refine gF0 func108 ?_
 refine gs (a0i (.tmp rfl) (by kernel_rfl) rfl) ?_
 refine gC (fun ht4 => ?_) (fun ht4 => ?_) (st1 := (2,0))
 ·cases ht4
 ·refine gs (aby T23 rfl T157 rfl rfl rfl) ?_
  refine gs (ado (.tmp rfl) rfl rfl (.tmp rfl) T23 rfl T157 rfl rfl (by simp only []; omega) rfl rfl) ?_
  refine gE1 ?_
  rfl
theorem a02 (e : AV) (es : List AV) (hc : ∀ x ∈ e :: es, x.cells.length = 2) (hl : (e :: es).length <= 1000) : FnC prog 109 [.lst 2 (e :: es)] (.lst 2 (e :: es)) := by
 refine gF0 func109 ?_
 refine gs (a0i (.tmp rfl) (by kernel_rfl) rfl) ?_
 refine gC (fun ht4 => ?_) (fun ht4 => ?_) (st1 := (2,0))
 ·cases ht4
 ·refine gs (aby T24 rfl T190 rfl rfl rfl) ?_
  refine gs (ado (.tmp rfl) rfl rfl (.tmp rfl) T24 rfl T190 rfl rfl (by simp only []; omega) rfl rfl) ?_
  refine gE1 ?_
  rfl
theorem a1z (a : Option Addr) (cap : Nat) : FnC prog 108 [.v (.slice a 0 cap)] (.lst 7 []) := by
 refine gF0 func108 ?_
 refine gs (av5 (.tmp rfl) (by kernel_rfl) rfl) ?_
 refine gC (fun ht4 => ?_) (fun ht4 => ?_) (st2 := (77777,0))
 ·refine gR ?_
  exact ae5 (Sub.nil _ _ _)
 ·refine gW (Wk.of (sl := [(0, some (.lst 7 []))]) (hp := []) (.cons rfl (Sub.nil _ _ _) .nil) .nil) ?_
  refine gs (aby T23 rfl T157 rfl rfl rfl) ?_
  refine gs (ado (.tmp rfl) rfl rfl (.tmp rfl) T23 rfl T157 rfl rfl (by simp) rfl rfl) ?_
  refine gE1 ?_
  rfl
theorem a4i (a : Option Addr) (cap : Nat) : FnC prog 109 [.v (.slice a 0 cap)] (.lst 2 []) := by
 refine gF0 func109 ?_
 refine gs (av5 (.tmp rfl) (by kernel_rfl) rfl) ?_
 refine gC (fun ht4 => ?_) (fun ht4 => ?_) (st2 := (77777,0))
 ·refine gR ?_
  exact ae5 (Sub.nil _ _ _)
 ·refine gW (Wk.of (sl := [(0, some (.lst 2 []))]) (hp := []) (.cons rfl (Sub.nil _ _ _) .nil) .nil) ?_
  refine gs (aby T24 rfl T190 rfl rfl rfl) ?_
  refine gs (ado (.tmp rfl) rfl rfl (.tmp rfl) T24 rfl T190 rfl rfl (by simp) rfl rfl) ?_
  refine gE1 ?_
  rfl
theorem a63 (es : List AV) (hc : ∀ x ∈ es, x.cells.length = 7) (hl : es.length <= 1000) : FnC prog 108 [.lst 7 es] (.lst 7 es) := by
 cases es with
 | nil => exact ayd a1z
 | cons e es => exact a2m e es hc hl
theorem a58 (es : List AV) (hc : ∀ x ∈ es, x.cells.length = 2) (hl : es.length <= 1000) : FnC prog 109 [.lst 2 es] (.lst 2 es) := by
 cases es with
 | nil => exact ayd a4i
 | cons e es => exact a02 e es hc hl
theorem aoy (l : Li) (h1 : liE l = 0) : FnC prog 108 [.lst 7 (l.joints.map Jt.av)] (.lst 7 (l.joints.map Jt.av)) :=
 a63 _ (fun x hx => by obtain ⟨j,_,rfl⟩ := List.mem_map.1 hx; rfl) (by rw [length_map]; have := (bey h1).1; omega)
theorem anp (l : Li) (h1 : liE l = 0) : FnC prog 109 [.lst 2 (l.drivers.map Dr.av)] (.lst 2 (l.drivers.map Dr.av)) :=
 a58 _ (fun x hx => by obtain ⟨j,_,rfl⟩ := List.mem_map.1 hx; rfl) (by rw [length_map]; have := (bey h1).2; omega)
theorem afx (l : Li) (hl : l.ok) : FnC prog 34 [l.av] (.tup [(a1t l).av, ain (liE l)]) := by
 refine gF0 func34 ?_
 refine gc (ag6 l hl) ?_
 refine gC (fun ht14 => ?_) (fun ht14 => ?_)
 ·have h1 := aec ht14
  refine gR ?_
  exact aju (by rw [a3f h1]; exact Sub.agg (.cons (.refl _) (.cons (.nil _ _ _) (.cons (.nil _ _ _) (.cons (.nil _ _ _) .nil)))) rfl) (.refl _)
 ·have h1 := aee ht14
  have hll := (abr h1).2.2.2.1
  have hpp := a89 h1
  refine gc (aoy l h1) ?_
  refine gc (anp l h1) ?_
  refine gD ?_
  refine gl ?_
  refine gW (Wk.virt 900 2 rfl) ?_
  refine gL1 [2,5,27,28] [2] (fun (i : Nat) => [(29,some (i64 i))]) (fun i => [(5,some (.box [.v (.string l.name),.ms 900 2 0 i,.lst 7 (l.joints.map Jt.av),.lst 2 (l.drivers.map Dr.av)])),(900,some (.row 2 (((l.bodies.take i).map aov).map Bd.av)))]) (fun i => i <= l.bodies.length) (fun i => l.bodies.length - i) 0 (zero_le _) ?_ (h2 := (.cons rfl (BlkSub.boxL (.cons (.refl _) (.cons (.nilMs _ _ _) (.cons (.refl _) (.cons (.refl _) .nil)))) rfl) (.cons rfl (.refl _) .nil)))
  rintro i hi K1 hK1
  refine gC (fun ht30 => ?_) (fun ht30 => ?_) (st2 := (16,0))
  ·have hin := abb ht30
   obtain ⟨b,hb⟩ := ab6 hin
   have hbo := hl.bodies b (mem_of_getElem? hb)
   have hpl := hpp b (mem_of_getElem? hb)
   refine gi (aae hb) ?_
   refine gl ?_
   refine gW (Wk.virt 901 7 rfl) ?_
   refine gL1 [2,5,8,27,28,29,37,38] [2,5,900] (fun (k : Nat) => [(39,some (i64 k))]) (fun k => [(8,some (.box [.v (.string b.name),.ms 901 7 0 k])),(901,some (.row 7 (((b.pts.take k).map ak8).map Mk.av)))]) (fun k => k <= b.pts.length) (fun k => b.pts.length - k) 0 (zero_le _) ?_ (h2 := (.cons rfl (BlkSub.boxL (.cons (.refl _) (.cons (.nilMs _ _ _) .nil)) rfl) (.cons rfl (.refl _) .nil)))
   rintro k hk K2 hK2
   refine gC (fun ht40 => ?_) (fun ht40 => ?_) (st2 := (14,0))
   ·have hkn := abb ht40
    obtain ⟨m,hm⟩ := ab6 hkn
    have hmo := hbo.pts m (mem_of_getElem? hm)
    refine gi (aae hm) ?_
    refine gc (av2 m.x hmo.x) ?_
    refine gc (adn m.y hmo.y) ?_
    refine gs (abh (.tmp rfl) rfl (ahb (by omega)).symm (.tmp rfl) T116 rfl T120 rfl rfl (by simp only [length_cons,length_nil]; omega) rfl rfl) ?_
    refine gD ?_ (13,0)
    refine gW (Wk.of (sl := [(2,some (.ptr 2 0)),(5,some (.ptr 5 0)),(8,some (.ptr 8 0)),(27,some (.lst 2 (l.bodies.map Bd.av))),(28,some (i64 l.bodies.length)),(29,some (i64 i)),(37,some (.lst 7 (b.pts.map Mk.av))),(38,some (i64 b.pts.length)),(39,some (i64 k))]) (hp := [(2,some (.box liZ)),(5,some (.box [.v (.string l.name),.ms 900 2 0 i,.lst 7 (l.joints.map Jt.av),.lst 2 (l.drivers.map Dr.av)])),(8,some (.box [.v (.string b.name),.ms 55 7 0 (k + 1)])),(900,some (.row 2 (((l.bodies.take i).map aov).map Bd.av))),(55,some (.row 7 (((b.pts.take (k + 1)).map ak8).map Mk.av)))]) abq (.cons rfl (.refl _) (.cons rfl (.refl _) (.cons rfl (.refl _) (.cons rfl (.refl _) (.cons rfl (BlkSub.of (by rw [adc hm]; rfl)) .nil)))))) ?_ (13,0)
    refine gW (Wk.rekey (k := 55) (d := 901) rfl rfl) ?_
    refine ga aas ?_
    exact gK1 hK2 (k + 1) hkn
   ·have hkn := aal hk ht40
    subst hkn
    refine gW ((Wk.freeze (k := 901) rfl).trans <| Wk.of (sl := [(2,some (.ptr 2 0)),(5,some (.ptr 5 0)),(8,some (.ptr 8 0)),(27,some (.lst 2 (l.bodies.map Bd.av))),(28,some (i64 l.bodies.length)),(29,some (i64 i))]) (hp := [(2,some (.box liZ)),(5,some (.box [.v (.string l.name),.ms 900 2 0 i,.lst 7 (l.joints.map Jt.av),.lst 2 (l.drivers.map Dr.av)])),(8,some (.box [.v (.string b.name),.lst 7 ((b.pts.map ak8).map Mk.av)])),(900,some (.row 2 (((l.bodies.take i).map aov).map Bd.av)))]) abq (.cons rfl (.refl _) (.cons rfl (.refl _) (.cons rfl (BlkSub.boxL (.cons (.refl _) (.cons (.of (by rw [abw (ahb (le_refl _)).symm,take_length])) .nil)) rfl) (.cons rfl (.refl _) .nil))))) ?_
    refine gs (abh (.tmp rfl) rfl (ahb (by omega)).symm (.tmp rfl) T22 rfl T118 rfl rfl (by simp only [length_cons,length_nil]; omega) rfl rfl) ?_ (15,0)
    refine gW (Wk.of (sl := [(2,some (.ptr 2 0)),(5,some (.ptr 5 0)),(27,some (.lst 2 (l.bodies.map Bd.av))),(28,some (i64 l.bodies.length)),(29,some (i64 i))]) (hp := [(2,some (.box liZ)),(5,some (.box [.v (.string l.name),.ms 62 2 0 (i + 1),.lst 7 (l.joints.map Jt.av),.lst 2 (l.drivers.map Dr.av)])),(62,some (.row 2 (((l.bodies.take (i + 1)).map aov).map Bd.av)))]) abq (.cons rfl (.refl _) (.cons rfl (.refl _) (.cons rfl (BlkSub.of (by rw [adc hb]; rfl)) .nil)))) ?_ (15,0)
    refine gW (Wk.rekey (k := 62) (d := 900) rfl rfl) ?_
    refine ga aas ?_
    exact gK1 hK1 (i + 1) hin
  ·have hin := aal hi ht30
   subst hin
   refine gW ((Wk.freeze (k := 900) rfl).trans <| Wk.of (sl := [(2,some (.ptr 2 0)),(5,some (.ptr 5 0))]) (hp := [(2,some (.box liZ)),(5,some (.box (aop l).av.cells))]) abq (.cons rfl (.refl _) (.cons rfl (BlkSub.boxL (.cons (.refl _) (.cons (.of (by rw [abw (ahb (le_refl _)).symm,take_length]; rfl)) (.cons (.refl _) (.cons (.refl _) .nil)))) rfl) .nil))) ?_
   refine gE2 ?_
   rw [arb h1,h1]; rfl
theorem at1 (l : Li) (hl : l.ok) (h1 : liE l = 0) : FnC prog 38 [l.av] (aop l).av := by
 have hll := (abr h1).2.2.2.1
 have hpp := a89 h1
 refine gF0 func38 ?_
 refine gl ?_
 refine gW (Wk.virt 900 2 rfl) ?_
 refine gL1 [2,3,17,18] [2] (fun (i : Nat) => [(19,some (i64 i))]) (fun i => [(3,some (.box [.v (.string l.name),.ms 900 2 0 i,.lst 7 (l.joints.map Jt.av),.lst 2 (l.drivers.map Dr.av)])),(900,some (.row 2 (((l.bodies.take i).map aov).map Bd.av)))]) (fun i => i <= l.bodies.length) (fun i => l.bodies.length - i) 0 (zero_le _) ?_ (h2 := (.cons rfl (BlkSub.boxL (.cons (.refl _) (.cons (.nilMs _ _ _) (.cons (.refl _) (.cons (.refl _) .nil)))) rfl) (.cons rfl (.refl _) .nil)))
 rintro i hi K1 hK1
 refine gC (fun ht20 => ?_) (fun ht20 => ?_) (st2 := (13,0))
 ·have hin := abb ht20
  obtain ⟨b,hb⟩ := ab6 hin
  have hbm := mem_of_getElem? hb
  have hbo := hl.bodies b hbm
  have hpl := hpp b (mem_of_getElem? hb)
  refine gi (aae hb) ?_
  refine gl ?_
  refine gW (Wk.virt 901 7 rfl) ?_
  refine gL1 [2,3,6,17,18,19,27,28] [2,3,900] (fun (k : Nat) => [(29,some (i64 k))]) (fun k => [(6,some (.box [.v (.string b.name),.ms 901 7 0 k])),(901,some (.row 7 (((b.pts.take k).map ak8).map Mk.av)))]) (fun k => k <= b.pts.length) (fun k => b.pts.length - k) 0 (zero_le _) ?_ (h2 := (.cons rfl (BlkSub.boxL (.cons (.refl _) (.cons (.nilMs _ _ _) .nil)) rfl) (.cons rfl (.refl _) .nil)))
  rintro k hk K2 hK2
  refine gC (fun ht30 => ?_) (fun ht30 => ?_) (st2 := (11,0))
  ·have hkn := abb ht30
   obtain ⟨m,hm⟩ := ab6 hkn
   have hmm := mem_of_getElem? hm
   have hmo := hbo.pts m hmm
   have hmx := (bdg hl h1 hbm hmm).1
   refine gi (aae hm) ?_
   refine gc (ajw m.y hmo.y) ?_
   refine gs (abh (.tmp rfl) rfl (ahb (by omega)).symm (.tmp rfl) T116 rfl T120 rfl rfl (by simp only [length_cons,length_nil]; omega) rfl rfl) ?_
   refine gD ?_ (10,0)
   refine gW (Wk.of (sl := [(2,some (.ptr 2 0)),(3,some (.ptr 3 0)),(6,some (.ptr 6 0)),(17,some (.lst 2 (l.bodies.map Bd.av))),(18,some (i64 l.bodies.length)),(19,some (i64 i)),(27,some (.lst 7 (b.pts.map Mk.av))),(28,some (i64 b.pts.length)),(29,some (i64 k))]) (hp := [(2,some (.box liZ)),(3,some (.box [.v (.string l.name),.ms 900 2 0 i,.lst 7 (l.joints.map Jt.av),.lst 2 (l.drivers.map Dr.av)])),(6,some (.box [.v (.string b.name),.ms 44 7 0 (k + 1)])),(900,some (.row 2 (((l.bodies.take i).map aov).map Bd.av))),(44,some (.row 7 (((b.pts.take (k + 1)).map ak8).map Mk.av)))]) abq (.cons rfl (.refl _) (.cons rfl (.refl _) (.cons rfl (.refl _) (.cons rfl (.refl _) (.cons rfl (BlkSub.of (by rw [adc hm]; unfold ak8; rw [<- hmx]; rfl)) .nil)))))) ?_ (10,0)
   refine gW (Wk.rekey (k := 44) (d := 901) rfl rfl) ?_
   refine ga aas ?_
   exact gK1 hK2 (k + 1) hkn
  ·have hkn := aal hk ht30
   subst hkn
   refine gW ((Wk.freeze (k := 901) rfl).trans <| Wk.of (sl := [(2,some (.ptr 2 0)),(3,some (.ptr 3 0)),(6,some (.ptr 6 0)),(17,some (.lst 2 (l.bodies.map Bd.av))),(18,some (i64 l.bodies.length)),(19,some (i64 i))]) (hp := [(2,some (.box liZ)),(3,some (.box [.v (.string l.name),.ms 900 2 0 i,.lst 7 (l.joints.map Jt.av),.lst 2 (l.drivers.map Dr.av)])),(6,some (.box [.v (.string b.name),.lst 7 ((b.pts.map ak8).map Mk.av)])),(900,some (.row 2 (((l.bodies.take i).map aov).map Bd.av)))]) abq (.cons rfl (.refl _) (.cons rfl (.refl _) (.cons rfl (BlkSub.boxL (.cons (.refl _) (.cons (.of (by rw [abw (ahb (le_refl _)).symm,take_length])) .nil)) rfl) (.cons rfl (.refl _) .nil))))) ?_
   refine gs (abh (.tmp rfl) rfl (ahb (by omega)).symm (.tmp rfl) T22 rfl T118 rfl rfl (by simp only [length_cons,length_nil]; omega) rfl rfl) ?_ (12,0)
   refine gW (Wk.of (sl := [(2,some (.ptr 2 0)),(3,some (.ptr 3 0)),(17,some (.lst 2 (l.bodies.map Bd.av))),(18,some (i64 l.bodies.length)),(19,some (i64 i))]) (hp := [(2,some (.box liZ)),(3,some (.box [.v (.string l.name),.ms 51 2 0 (i + 1),.lst 7 (l.joints.map Jt.av),.lst 2 (l.drivers.map Dr.av)])),(51,some (.row 2 (((l.bodies.take (i + 1)).map aov).map Bd.av)))]) abq (.cons rfl (.refl _) (.cons rfl (.refl _) (.cons rfl (BlkSub.of (by rw [adc hb]; rfl)) .nil)))) ?_ (12,0)
   refine gW (Wk.rekey (k := 51) (d := 900) rfl rfl) ?_
   refine ga aas ?_
   exact gK1 hK1 (i + 1) hin
 ·have hin := aal hi ht20
  subst hin
  refine gW ((Wk.freeze (k := 900) rfl).trans <| Wk.of (sl := [(2,some (.ptr 2 0)),(3,some (.ptr 3 0))]) (hp := [(2,some (.box liZ)),(3,some (.box (aop l).av.cells))]) abq (.cons rfl (.refl _) (.cons rfl (BlkSub.boxL (.cons (.refl _) (.cons (.of (by rw [abw (ahb (le_refl _)).symm,take_length]; rfl)) (.cons (.refl _) (.cons (.refl _) .nil)))) rfl) .nil))) ?_
  refine gE1 ?_
  rfl
theorem at9 (x : Tn) (hx : x.t.ok) : FnC prog 211 [x.av] (aoq x).av := by
 refine gF0 func211 ?_
 refine gc (adn x.t hx) ?_
 refine gD ?_
 refine gE1 ?_
 rfl
theorem aym (x : Tn) (hx : x.t.ok) : FnC prog 112 [x.av] (.tup [(a5f x).av, ain x.err]) := by
 refine gF0 func112 ?_
 refine gc (ars x hx) ?_
 refine gC (fun ht8 => ?_) (fun ht8 => ?_)
 ·have h1 := aec ht8
  refine gR ?_
  exact aju (by unfold a5f; rw [if_neg h1]; exact Sub.agg (.cons (.refl _) (.cons (.nil _ _ _) (.cons (.nil _ _ _) (.cons (.refl _) .nil)))) rfl) (.refl _)
 ·have h1 := aee ht8
  refine gc (at9 x hx) ?_
  refine gE2 ?_
  unfold a5f; rw [if_pos h1,h1]; rfl
theorem ag4 (xs : List Tn) (hx : ∀ x ∈ xs, x.t.ok) (hl : xs.length <= 1000) : FnC prog 35 [.lst 4 (xs.map Tn.av)] (.tup [.lst 4 ((ao1 xs).map Tn.av), ain (awf xs)]) := by
 refine gF0 func35 ?_
 refine gl ?_
 refine gW (Wk.virt 900 4 rfl) ?_
 refine gL1 [9,10] [] (fun (i : Nat) => [(4,some (.ms 900 4 0 i)),(11,some (i64 i))]) (fun i => [(900,some (.row 4 (((xs.take i).map aoq).map Tn.av)))]) (fun i => i <= xs.length /\ ∀ y ∈ xs.take i,y.err = 0) (fun i => xs.length - i) 0 ⟨zero_le _,fun x hx => by simp at hx⟩ ?_
 rintro i ⟨hi,hj⟩ K1 hK1
 refine gC (fun ht12 => ?_) (fun ht12 => ?_) (st2 := (10,0))
 ·have hin := abb ht12
  obtain ⟨x,hxx⟩ := ab6 hin
  have hxo := hx x (mem_of_getElem? hxx)
  refine gi (aae hxx) ?_
  refine gc (aym x hxo) ?_
  refine gC (fun ht21 => ?_) (fun ht21 => ?_)
  ·have h2 := aec ht21
   refine gR ?_
   exact aju (by rw [au8 (by rw [axs hxx hj h2]; exact h2)]; exact Sub.nil _ _ _) (Sub.of (by rw [axs hxx hj h2]))
  ·have h2 := aee ht21
   have hm0 : a5f x = aoq x := if_pos h2
   rw [hm0]
   refine gs (abh (.tmp rfl) rfl (ahb (by omega)).symm (.tmp rfl) T55 rfl T84 rfl rfl (by simp only [length_cons,length_nil]; omega) rfl rfl) ?_ (9,0)
   refine gW (Wk.of (sl := [(4,some (.ms 26 4 0 (i + 1))),(9,some (.lst 4 (xs.map Tn.av))),(10,some (i64 xs.length)),(11,some (i64 i))]) (hp := [(26,some (.row 4 (((xs.take (i + 1)).map aoq).map Tn.av)))]) abq (.cons rfl (BlkSub.of (by rw [adc hxx]; rfl)) .nil)) ?_ (9,0)
   refine gW (Wk.rekey (k := 26) (d := 900) rfl rfl) ?_
   refine ga aas ?_
   exact gK1 hK1 (i + 1) ⟨hin,fun z hz => by rw [aax hxx] at hz; rcases List.mem_append.1 hz with h9 | h9; exact hj z h9; (rw [List.mem_singleton.1 h9]; exact h2)⟩
 ·have hin := aal hi ht12
  subst hin
  have hz : awf xs = 0 := bad (by rw [take_length] at hj; exact hj)
  refine gW ((Wk.freeze (k := 900) rfl).trans <| Wk.of (sl := [(4,some (.lst 4 ((xs.map aoq).map Tn.av)))]) (hp := []) (.cons rfl (Sub.of (by rw [abw (ahb (le_refl _)).symm,take_length])) .nil) .nil) ?_
  refine gE2 ?_
  rw [aq8 hz,hz]; rfl
theorem a2s (x : Tn) (hx : x.t.ok) : FnC prog 114 [x.av] (aoq x).av := by
 refine gF0 func114 ?_
 refine gc (ajw x.t hx) ?_
 refine gD ?_
 refine gE1 ?_
 rfl
theorem auj (xs : List Tn) (hx : ∀ x ∈ xs, x.t.ok) (hl : xs.length <= 1000) : FnC prog 36 [.lst 4 (xs.map Tn.av)] (.tup [.lst 4 ((ao1 xs).map Tn.av), i64 (awf xs)]) := by
 refine gF0 func36 ?_
 refine gl ?_
 refine gW (Wk.virt 900 4 rfl) ?_
 refine gL1 [8,9] [] (fun (i : Nat) => [(4,some (.ms 900 4 0 i)),(10,some (i64 i))]) (fun i => [(900,some (.row 4 (((xs.take i).map aoq).map Tn.av)))]) (fun i => i <= xs.length /\ ∀ y ∈ xs.take i,y.err = 0) (fun i => xs.length - i) 0 ⟨zero_le _,fun x hx => by simp at hx⟩ ?_
 rintro i ⟨hi,hj⟩ K1 hK1
 refine gC (fun ht11 => ?_) (fun ht11 => ?_) (st2 := (10,0))
 ·have hin := abb ht11
  obtain ⟨x,hxx⟩ := ab6 hin
  have hxo := hx x (mem_of_getElem? hxx)
  refine gi (aae hxx) ?_
  refine gc (auh x hxo) ?_
  refine gC (fun ht17 => ?_) (fun ht17 => ?_)
  ·have h2 := anb ht17
   refine gR ?_
   exact aju (by rw [au8 (by rw [axs hxx hj h2]; exact h2)]; exact Sub.nil _ _ _) (Sub.of (by rw [axs hxx hj h2]))
  ·have h2 := alz ht17
   refine gc (a2s x hxo) ?_
   refine gs (abh (.tmp rfl) rfl (ahb (by omega)).symm (.tmp rfl) T55 rfl T84 rfl rfl (by simp only [length_cons,length_nil]; omega) rfl rfl) ?_ (9,0)
   refine gW (Wk.of (sl := [(4,some (.ms 23 4 0 (i + 1))),(8,some (.lst 4 (xs.map Tn.av))),(9,some (i64 xs.length)),(10,some (i64 i))]) (hp := [(23,some (.row 4 (((xs.take (i + 1)).map aoq).map Tn.av)))]) abq (.cons rfl (BlkSub.of (by rw [adc hxx])) .nil)) ?_ (9,0)
   refine gW (Wk.rekey (k := 23) (d := 900) rfl rfl) ?_
   refine ga aas ?_
   exact gK1 hK1 (i + 1) ⟨hin,fun z hz => by rw [aax hxx] at hz; rcases List.mem_append.1 hz with h9 | h9; exact hj z h9; (rw [List.mem_singleton.1 h9]; exact h2)⟩
 ·have hin := aal hi ht11
  subst hin
  have hz : awf xs = 0 := bad (by rw [take_length] at hj; exact hj)
  refine gW ((Wk.freeze (k := 900) rfl).trans <| Wk.of (sl := [(4,some (.lst 4 ((xs.map aoq).map Tn.av)))]) (hp := []) (.cons rfl (Sub.of (by rw [abw (ahb (le_refl _)).symm,take_length])) .nil) .nil) ?_
  refine gE2 ?_
  rw [aq8 hz,hz]; rfl
end Go.Lw
namespace Go.Lw
open Go.Proofs
theorem a7k (q : Rat) : ahh (q - q) = 0:=by rw [show q - q = 0 by grind]; rfl
theorem akc (a : List Nat) (ha : a.length <= 281474976710656) : FnC prog 303 [ws a, ws a] (bl true) := by
 refine gF0 func303 ?_
 refine gl ?_
 refine gl ?_
 refine gC (fun ht10 => ?_) (fun ht10 => ?_) (st1 := (2,0))
 ·exact absurd ht10 (by simp [aaa])
 ·refine gL1 [0, 1] [] (fun (i : Nat) => [(5, some (i64 i))]) (fun _ => []) (fun i => i <= a.length) (fun i => a.length - i) 0 (zero_le _) ?_
  rintro i hi K1 hK1
  refine gl ?_
  refine gC (fun ht14 => ?_) (fun ht14 => ?_)
  ·have hin := abb ht14
   obtain ⟨x,hx⟩ := ab6 hin
   refine gi (aae hx) ?_
   refine gi (aae hx) ?_
   refine gD ?_
   refine gC (fun ht25 => ?_) (fun ht25 => ?_) (st1 := (7,0))
   ·exact absurd ht25 (by simp [aaa])
   ·refine ga aas ?_
    exact gK1 hK1 (i + 1) hin
  ·refine gE1 ?_
   rfl
theorem aln (a : List Int) (ha : a.length <= 281474976710656) : FnC prog 106 [.lst 1 (a.map i64), .lst 1 (a.map i64)] (bl true) := by
 refine gF0 func106 ?_
 refine gl ?_
 refine gl ?_
 refine gC (fun ht10 => ?_) (fun ht10 => ?_) (st1 := (2,0))
 ·exact absurd ht10 (by simp [aaa])
 ·refine gL1 [0, 1] [] (fun (i : Nat) => [(5, some (i64 i))]) (fun _ => []) (fun i => i <= a.length) (fun i => a.length - i) 0 (zero_le _) ?_
  rintro i hi K1 hK1
  refine gl ?_
  refine gC (fun ht14 => ?_) (fun ht14 => ?_)
  ·have hin := abb ht14
   obtain ⟨x,hx⟩ := ab6 hin
   refine gi (aae hx) ?_
   refine gi (aae hx) ?_
   refine gD ?_
   refine gC (fun ht25 => ?_) (fun ht25 => ?_) (st1 := (7,0))
   ·exact absurd ht25 (by simp [aaa])
   ·refine ga aas ?_
    exact gK1 hK1 (i + 1) hin
  ·refine gE1 ?_
   rfl
theorem aoi (x : Rt) (hx : x.ok) : FnC prog 202 [x.av, x.av] (bl true) := by
 have h1 : x.num.length <= 281474976710656:=by have := hx.2.2.1; unfold lim at this; omega
 have h2 : x.den.length <= 281474976710656:=by have := hx.2.2.2; unfold lim at this; omega
 refine gF0 func202 ?_
 refine gcG (fun _ => (akc x.num h1)) ?_
 refine gcG (fun h => (akc x.den h2)) ?_
 refine gE1 ?_
 simp; rfl
theorem asp (b : Bd) (hb : b.ok) : FnC prog 103 [b.av, b.av] (bl true) := by
 have hbl := hb.ll
 refine gF0 func103 ?_
 refine glG ?_
 refine glG ?_
 refine gC (fun ht21 => ?_) (fun ht21 => ?_) (st1 := (2,0))
 ·exact absurd ht21 (by simp [aaa])
 ·refine gL1 [2, 3] [2, 3] (fun (i : Nat) => [(5, some (i64 i))]) (fun _ => []) (fun i => i <= b.pts.length) (fun i => b.pts.length - i) 0 (zero_le _) ?_
  rintro i hi K1 hK1
  refine gl ?_
  refine gC (fun ht26 => ?_) (fun ht26 => ?_)
  ·have hin := abb ht26
   obtain ⟨m,hm⟩ := ab6 hin
   have hmo := hb.pts m (mem_of_getElem? hm)
   refine gi (aae hm) ?_
   refine gi (aae hm) ?_
   refine gD ?_
   refine gcG (fun _ => (aoi m.x hmo.x)) ?_
   refine gcG (fun _ => (aoi m.y hmo.y)) ?_
   refine gC (fun ht59 => ?_) (fun ht59 => ?_) (st1 := (8,0))
   ·exact absurd ht59 (by simp)
   ·refine ga aas ?_
    exact gK1 hK1 (i + 1) hin
  ·refine gE1 ?_
   rfl
theorem amx (l l2 : Li) (hl : l.ok) (e : l = l2) : FnC prog 28 [l.av, l2.av] (bl true) := by
 have hlb := hl.lb
 have hlj := hl.lj
 have hld := hl.ld
 refine gF0 func28 ?_
 refine glG ?_
 refine glG ?_
 refine glG ?_
 refine glG ?_
 refine glG ?_
 refine glG ?_
 refine gC (fun ht39 => ?_) (fun ht39 => ?_) (st1 := (2,0))
 ·exact absurd ht39 (by subst e; simp [aaa])
 ·subst e
  refine gL1 [2,3] [2,3] (fun (i : Nat) => [(5,some (i64 i))]) (fun _ => []) (fun i => i <= l.bodies.length) (fun i => l.bodies.length - i) 0 (zero_le _) ?_
  rintro i hi K1 hK1
  refine gl ?_
  refine gC (fun ht44 => ?_) (fun ht44 => ?_)
  ·have hin := abb ht44
   obtain ⟨b,hb⟩ := ab6 hin
   refine gi (aae hb) ?_
   refine gi (aae hb) ?_
   refine gc (asp b (hl.bodies b (mem_of_getElem? hb))) ?_
   refine gD ?_
   refine gC (fun ht58 => ?_) (fun ht58 => ?_) (st1 := (7,0))
   ·cases ht58
   ·refine ga aas ?_
    exact gK1 hK1 (i + 1) hin
  ·refine gL1 [2, 3] [2, 3] (fun (i : Nat) => [(6, some (i64 i))]) (fun _ => []) (fun i => i <= l.joints.length) (fun i => l.joints.length - i) 0 (zero_le _) ?_
   rintro i hk K2 hK2
   refine gl ?_
   refine gC (fun ht63 => ?_) (fun ht63 => ?_)
   ·have hkn := abb ht63
    obtain ⟨j,hj⟩ := ab6 hkn
    refine gi (aae hj) ?_
    refine gi (aae hj) ?_
    refine gs (a8n (cs := j.vs) (ks := [2,1,1,1,1,1,1]) (.tmp rfl) (.tmp rfl) rfl (by kernel_rfl) rfl) ?_
    refine gD ?_
    refine gC (fun ht76 => ?_) (fun ht76 => ?_) (st1 := (12,0))
    ·cases ht76
    ·refine ga aas ?_
     exact gK1 hK2 (i + 1) hkn
   ·refine gL1 [2, 3] [2, 3] (fun (i : Nat) => [(7, some (i64 i))]) (fun _ => []) (fun i => i <= l.drivers.length) (fun i => l.drivers.length - i) 0 (zero_le _) ?_
    rintro i hq K3 hK3
    refine gl ?_
    refine gC (fun ht81 => ?_) (fun ht81 => ?_)
    ·have hqn := abb ht81
     obtain ⟨d,hd⟩ := ab6 hqn
     refine gi (aae hd) ?_
     refine gi (aae hd) ?_
     refine gs (a8n (cs := d.vs) (ks := [2,1]) (.tmp rfl) (.tmp rfl) rfl (by kernel_rfl) rfl) ?_
     refine gD ?_
     refine gC (fun ht94 => ?_) (fun ht94 => ?_) (st1 := (17,0))
     ·cases ht94
     ·refine ga aas ?_
      exact gK1 hK3 (i + 1) hqn
    ·refine gE1 ?_
     rfl
theorem aai (l : Li) (hl : l.ok) : FnC prog 28 [l.av,l.av] (bl true) := amx l l hl rfl
theorem avz (gs : List Gr) (hg : ∀ g ∈ gs, g.sm) (hl : gs.length <= 100) : FnC prog 40 [.lst 4 (gs.map Gr.av), .lst 4 (gs.map Gr.av)] (bl true) := by
 refine gF0 func40 ?_
 refine gl ?_
 refine gl ?_
 refine gC (fun ht12 => ?_) (fun ht12 => ?_) (st1 := (2,0))
 ·exact absurd ht12 (by simp [aaa])
 ·refine gl ?_
  refine gL1 [1,13,14] [] (fun (i : Nat) => [(15,some (i64 i))]) (fun _ => []) (fun i => i <= gs.length) (fun i => gs.length - i) 0 (zero_le _) ?_
  rintro i hi K1 hK1
  refine gC (fun ht16 => ?_) (fun ht16 => ?_)
  ·have hin := abb ht16
   obtain ⟨g,hgi⟩ := ab6 hin
   have hgs := hg g (mem_of_getElem? hgi)
   have hgb := hgs.b
   have hgj := hgs.j
   refine gi (aae hgi) ?_
   refine gi (aae hgi) ?_
   refine gcG (fun _ => (aln g.bodies (by omega))) ?_
   refine gcG (fun _ => (aln g.joints (by omega))) ?_
   refine gC (fun ht51 => ?_) (fun ht51 => ?_) (st1 := (8,0))
   ·exact absurd ht51 (by simp [aaa])
   ·refine ga aas ?_
    exact gK1 hK1 (i + 1) hin
  ·refine gE1 ?_
   rfl
theorem an6 (x : Tn) (hx : x.t.ok) : FnC prog 37 [x.av, x.av] (bl true) := by
 have hc := amm x.t x.t hx hx (by rw [show x.t.q - x.t.q = 0 by grind]; exact Qs.zero)
 rw [a7k] at hc
 refine gF0 func37 ?_
 refine gcG (fun _ => hc) ?_
 refine gE1 ?_
 simp [aaa]; rfl
theorem bdn {p : Bool} (h : cond (!true) true (!p) = false) : p = true:=by cases p <;> simp_all
theorem bg6 {p : Bool} {e : Nat} (h : cond (cond (!true) true (!p)) true (aaa .neq (e : Int) 0) = false) : p = true /\ e = 0 := by
 cases p
 ·cases h
 ·exact ⟨rfl,alz h⟩
end Go.Lw
namespace Go.Lw
open Go.Proofs
theorem aja (d : Nat) (hd : Nat.blt d 1000 = true) (l : Li) (hl : l.bodies.length <= 1000) (b : Nat) (hb : b < l.bodies.length) :
  Con prog 216 [l.av,i64 b] [] (.ms d 1 0 l.bodies.length) [(d,some (.row 1 ((adv l.bodies.length b).map bl)))] := by
 refine gF func216 (fun k z h => by cases h) ?_
 refine gl ?_
 refine gs (afh (.tmp rfl) T162 rfl T4 rfl rfl (by omega) (by dsimp only; omega) rfl) ?_
 refine gs (ag7 (.tmp rfl) (.tmp rfl) T162 rfl T4 rfl (by omega) (by omega) rfl) ?_
 refine gs (abk (.tmp rfl) rfl (by rw [List.getElem?_replicate,if_pos (by simp; omega)]) rfl (.const _) rfl rfl T4 rfl rfl) ?_ (3,0)
 refine gW (Wk.of (sl := [(5,some (.ms 9 1 0 l.bodies.length))]) (hp := [(9,some (.row 1 ((adv l.bodies.length b).map bl)))]) (.cons rfl (Sub.of (by rw [toNat_natCast])) .nil) (.cons rfl (BlkSub.of (by unfold adv; simp only [map_set,map_replicate,Nat.zero_add,toNat_natCast]; rfl)) .nil)) ?_ (3,0)
 refine gW (Wk.rekey (k := 9) (d := 900) rfl rfl) ?_
 refine gR ?_
 exact Fin.own1 rfl hd rfl
theorem aza (l : Li) (hl : l.bodies.length <= 1000) (b : Nat) (hb : b < l.bodies.length) : FnC prog 216 [l.av, i64 b] (.lst 1 ((adv l.bodies.length b).map bl)) := by
 have h := Con.freeze (by rw [length_map,adh]; omega) (aja 0 rfl l hl b hb)
 rw [drop_zero,take_of_length_le (by rw [length_map,adh]; exact le_refl _)] at h
 exact h
theorem atj (l : Li) (hl : l.ok) (b : Int) : FnC prog 383 [l.av, i64 b] (bl (ajl l b)) := by
 have hld := hl.ld
 refine gF0 func383 ?_
 refine gl ?_
 refine gL1 [1,8,9] [] (fun (i : Nat) => [(10,some (i64 i))]) (fun _ => []) (fun i => i <= l.drivers.length /\ (l.drivers.take i).any (fun d => decide (d.body = b)) = false) (fun i => l.drivers.length - i) 0 ⟨zero_le _,rfl⟩ ?_
 rintro i ⟨hi,hj⟩ K1 hK1
 refine gC (fun ht11 => ?_) (fun ht11 => ?_)
 ·have hin := abb ht11
  obtain ⟨d,hd⟩ := ab6 hin
  refine gi (aae hd) ?_
  refine gC (fun ht17 => ?_) (fun ht17 => ?_)
  ·have h1 : d.body = b := ahf ht17
   refine gE1 ?_
   unfold ajl; rw [List.any_eq_true.2 ⟨d,mem_of_getElem? hd,decide_eq_true h1⟩]; rfl
  ·have h1 : d.body ≠ b := aj0 ht17
   refine ga aas ?_
   exact gK1 hK1 (i + 1) ⟨hin,ad2 hd hj (decide_eq_false h1)⟩
 ·have hin := aal hi ht11
  subst hin
  rw [take_length] at hj
  refine gE1 ?_
  unfold ajl; rw [hj]; rfl
theorem aok (l : Li) (hl : l.ok) (hli : liE l = 0) (kind body : Int) (oth : List Bool) (ho : oth.length = l.bodies.length) : FnC prog 316 [l.av, i64 kind, i64 body, .lst 1 (oth.map bl)] (i64 (jointI l kind body oth)) := by
 have hlj := hl.lj
 refine gF0 func316 ?_
 refine gl ?_
 refine gL1 [1,2,3,12,13] [] (fun (i : Nat) => [(14,some (i64 i))]) (fun _ => []) (fun i => i <= l.joints.length /\ ∀ j,j < i -> (!a5c kind body oth (l.joints.getD j default)) = true) (fun i => l.joints.length - i) 0 ⟨zero_le _,fun j h => by omega⟩ ?_
 rintro i ⟨hi,hj⟩ K1 hK1
 refine gC (fun ht15 => ?_) (fun ht15 => ?_)
 ·have hin := abb ht15
  obtain ⟨j,hjt⟩ := ab6 hin
  have hjd : l.joints.getD i default = j := aar hjt
  obtain ⟨i1,i2,_⟩ := a6y hli hjt
  have b1 := aim i1
  have b2 := aim i2
  obtain ⟨va,hva⟩ : ∃ v,oth[j.a.toNat]? = some v := ab6 (by omega)
  obtain ⟨vb,hvb⟩ : ∃ v,oth[j.b.toNat]? = some v := ab6 (by omega)
  have ea : kn oth j.a = va := aar hva
  have eb : kn oth j.b = vb := aar hvb
  refine gi (aae hjt) ?_
  refine giG (fun _ => (aqm (n := j.b.toNat) (by omega) hvb)) ?_
  refine giG (fun _ => (aqm (n := j.a.toNat) (by omega) hva)) ?_
  refine gC (fun ht48 => ?_) (fun ht48 => ?_)
  ·have h2 : a5c kind body oth j = true := by rw [<- ath (va := va) (vb := vb) ea eb]; exact ht48
   refine gE1 ?_
   unfold jointI; rw [acu hin hj (by rw [hjd,h2]; rfl)]; rfl
  ·have h2 : a5c kind body oth j = false := by rw [<- ath (va := va) (vb := vb) ea eb]; exact ht48
   refine ga aas ?_
   exact gK1 hK1 (i + 1) ⟨hin,fun k h9 => by rcases lt_or_ge k i with g | g; exact hj k g; (have : k = i:=by omega); subst this; rw [hjd,h2]; rfl⟩
 ·have hin := aal hi ht15
  subst hin
  refine gE1 ?_
  unfold jointI; rw [ab7 hj]; rfl
theorem azl (l : Li) (hl : l.ok) (known : List Bool) (b : Nat) (hb : b < known.length) : FnC prog 317 [l.av, .lst 1 (known.map bl), i64 b] (bl (freeB l known b)) := by
 obtain ⟨v,hv⟩ := ab6 hb
 have ev : kn known (b : Int) = v := aar (by rw [toNat_natCast]; exact hv)
 refine gF0 func317 ?_
 refine gi (aae hv) ?_
 refine gcG (fun _ => (atj l hl b)) ?_
 refine gE1 ?_
 unfold freeB; rw [ev]; exact congrArg bl (adr _ _)
end Go.Lw
namespace Go.Lw
open Go.Proofs
theorem bf9 {l : Li} {known : List Bool} (hl : l.ok) (hli : liE l = 0) (kind body : Int) (hk : known.length = l.bodies.length) :
  Con prog 316 [l.av,i64 kind,i64 body,.ms 1000 1 0 known.length] [(1000,some (.row 1 (known.map bl)))] (i64 (jointI l kind body known)) [(1000,some (.row 1 (known.map bl)))] := by
 refine Con.borrow (args := [l.av,i64 kind,i64 body,.lst 1 (known.map bl)]) 1000 1 (known.map bl) rfl rfl rfl ?_ rfl (fun k' x h => by cases h) (aok l hl hli kind body known hk)
 intro j x' hj
 match j,hj with
 | 0,hj => cases hj; exact .inl rfl
 | 1,hj => cases hj; exact .inl rfl
 | 2,hj => cases hj; exact .inl rfl
 | 3,hj => cases hj; exact .inr ⟨0,known.length,rfl,by simp,by rw [drop_zero,take_of_length_le (by simp)]; rfl⟩
theorem bik {l : Li} {known : List Bool} (hl : l.ok) (b : Nat) (hb : b < known.length) :
  Con prog 317 [l.av,.ms 1000 1 0 known.length,i64 b] [(1000,some (.row 1 (known.map bl)))] (bl (freeB l known b)) [(1000,some (.row 1 (known.map bl)))] := by
 refine Con.borrow (args := [l.av,.lst 1 (known.map bl),i64 b]) 1000 1 (known.map bl) rfl rfl rfl ?_ rfl (fun k' x h => by cases h) (azl l hl known b hb)
 intro j x' hj
 match j,hj with
 | 0,hj => cases hj; exact .inl rfl
 | 1,hj => cases hj; exact .inr ⟨0,known.length,rfl,by simp,by rw [drop_zero,take_of_length_le (by simp)]; rfl⟩
 | 2,hj => cases hj; exact .inl rfl
theorem ato (l : Li) (hl : l.ok) (hli : liE l = 0) (known : List Bool) (hk : known.length = l.bodies.length) : Con prog 217 [l.av, .ms 1000 1 0 known.length] [(1000, some (.row 1 (known.map bl)))] (.tup [((driverG l known).getD default).av, bl (driverG l known).isSome]) [(1000, some (.row 1 (known.map bl)))] := by
 have hld := hl.ld
 refine gF func217 (fun k z h => alt h) ?_
 refine gl ?_
 refine gL1 [2,4,10,11] [2,4,1000] (fun (i : Nat) => [(1,some (.ms 1000 1 0 known.length)),(12,some (i64 i))]) (fun _ => []) (fun i => i <= l.drivers.length /\ ∀ j,j < i -> (!drHit l known j) = true) (fun i => l.drivers.length - i) 0 ⟨zero_le _,fun j h => by omega⟩ ?_
 rintro i ⟨hi,hj⟩ K1 hK1
 refine gC (fun ht13 => ?_) (fun ht13 => ?_)
 ·have hin := abb ht13
  obtain ⟨d,hd⟩ := ab6 hin
  have hdd : l.drivers.getD i default = d := aar hd
  have hb := aim (ayo hli hd)
  obtain ⟨v,hv⟩ : ∃ v,known[d.body.toNat]? = some v := ab6 (by omega)
  have ev : kn known d.body = v := aar hv
  refine gi (aae hd) ?_
  refine gs (ag7 (.tmp rfl) (.tmp rfl) T162 rfl T4 rfl (by omega) (by omega) rfl) ?_
  refine gs (aay (.tmp rfl) rfl (by rw [Nat.zero_add,getElem?_map,hv]; rfl) T4 rfl rfl rfl) ?_
  refine gC (fun ht21 => ?_) (fun ht21 => ?_)
  ·have h2 : drHit l known i = false := by unfold drHit; rw [hdd, ev, ht21]; rfl
   refine ga aas ?_
   exact gK1 hK1 (i + 1) ⟨hin,fun k h9 => by rcases lt_or_ge k i with g | g; exact hj k g; (have : k = i:=by omega); subst this; rw [h2]; rfl⟩
  ·have hv0 : v = false := ht21
   refine gt (ah0 (bf9 hl hli 0 d.body hk) (.cons (.tmp rfl) (.cons (.const _) (.cons (.tmp rfl) (.cons (.tmp rfl) .nil)))) rfl rfl rfl) ?_
   refine gC (fun ht28 => ?_) (fun ht28 => ?_)
   ·have h2 : drHit l known i = true := by unfold drHit; rw [hdd, ev, hv0, decide_eq_true (bel ht28)]; rfl
    have hg : driverG l known = some ⟨0,[d.body],[jointI l 0 d.body known],i⟩:=by unfold driverG; rw [acu hin hj (by rw [h2]; rfl),<- hdd]; rfl
    refine gR ?_
    rw [hg]
    exact Fin.keep (at4 rfl)
   ·have h2 : drHit l known i = false := by unfold drHit; rw [hdd, decide_eq_false (bdq ht28), Bool.and_false]
    refine ga aas ?_
    exact gK1 hK1 (i + 1) ⟨hin,fun k h9 => by rcases lt_or_ge k i with g | g; exact hj k g; (have : k = i:=by omega); subst this; rw [h2]; rfl⟩
 ·have hin := aal hi ht13
  subst hin
  have hg : driverG l known = none:=by unfold driverG; rw [ab7 hj]; rfl
  refine gR ?_
  exact Fin.sub (Fin.keep (at4 rfl)) (by rw [hg]; exact Sub.tup (.cons akx (.cons (.refl _) .nil)))
theorem azs (l : Li) (hl : l.ok) (hli : liE l = 0) (known : List Bool) (hk : known.length = l.bodies.length) : Con prog 218 [l.av, .ms 1000 1 0 known.length] [(1000, some (.row 1 (known.map bl)))] (.tup [((pairG l known).getD default).av, bl (pairG l known).isSome]) [(1000, some (.row 1 (known.map bl)))] := by
 have h8 := (abr hli).2.2.2.1
 refine gF func218 (fun k z h => alt h) ?_
 refine gl ?_
 refine gL1 [2,4,12,13] [2,4,1000] (fun (i : Nat) => [(1,some (.ms 1000 1 0 known.length)),(14,some (i64 i))]) (fun _ => []) (fun i => i <= l.bodies.length /\ ∀ j,j < i -> (prAt l known j).isNone = true) (fun i => l.bodies.length - i) 0 ⟨zero_le _,fun j h => by omega⟩ ?_
 rintro i ⟨hi,hj⟩ K1 hK1
 refine gC (fun ht15 => ?_) (fun ht15 => ?_)
 ·have hin := abb ht15
  refine ga aas ?_
  refine gL1 [2,4,6,12,13,14] [2,4,1000] (fun (k : Nat) => [(1,some (.ms 1000 1 0 known.length)),(7,some (i64 (i + 1 + k : Nat)))]) (fun _ => []) (fun k => i + 1 + k <= l.bodies.length /\ ∀ j,j < k -> (!prHit l known i (i + 1 + j)) = true) (fun k => l.bodies.length - k) 0 ⟨by omega,fun j h => by omega⟩ ?_
  rintro k ⟨hkl,hkj⟩ K2 hK2
  refine gl ?_
  refine gC (fun ht23 => ?_) (fun ht23 => ?_)
  ·have hkn : i + 1 + k < l.bodies.length := abb ht23
   refine gt (ah0 (bik hl i (by omega)) (.cons (.tmp rfl) (.cons (.tmp rfl) (.cons (.tmp rfl) .nil))) rfl rfl rfl) ?_
   refine gu (aco rfl rfl rfl (fun h => ah0 (bik hl (i + 1 + k) (by omega)) (.cons (.opt rfl (o1 h)) (.cons (.opt rfl (o1 h)) (.cons (.opt rfl (o1 h)) .nil))) rfl rfl rfl)) ?_
   refine gC (fun ht37 => ?_) (fun ht37 => ?_)
   ·have h2 : prHit l known i (i + 1 + k) = false := by unfold prHit; rw [show (freeB l known i && freeB l known ((i + 1 + k : Nat) : Int)) = false from by rcases bct ht37 with g | g; (rw [g]; rfl); (rw [g, Bool.and_false])]; rfl
    refine ga aas ?_
    exact gK1 hK2 (k + 1) ⟨by omega,fun j h9 => by rcases lt_or_ge j k with g | g; exact hkj j g; (have : j = k:=by omega); subst this; rw [h2]; rfl⟩
   ·have hff := bam ht37
    refine gt (ah0 (bf9 hl hli 0 i hk) (.cons (.tmp rfl) (.cons (.const _) (.cons (.tmp rfl) (.cons (.tmp rfl) .nil)))) rfl rfl rfl) ?_
    refine gt (ah0 (bf9 hl hli 0 (i + 1 + k : Nat) hk) (.cons (.tmp rfl) (.cons (.const _) (.cons (.tmp rfl) (.cons (.tmp rfl) .nil)))) rfl rfl rfl) ?_
    refine gc (aza l (by omega) (i + 1 + k) hkn) ?_
    refine gc (aok l hl hli 0 i (adv l.bodies.length ((i + 1 + k : Nat) : Int)) (adh _ _)) ?_
    refine gD ?_
    refine gC (fun ht61 => ?_) (fun ht61 => ?_)
    ·have h2 : prHit l known i (i + 1 + k) = true := by unfold prHit; rw [hff.1, hff.2]; exact (ari.symm.trans ht61)
     have hat : prAt l known i = some (i + 1 + k):=by unfold prAt; rw [acu (by omega) hkj (by rw [h2]; rfl),Option.map_some]; congr 1; omega
     have hg : pairG l known = some (prG l known i (i + 1 + k)):=by unfold pairG; rw [acu hin hj (by rw [hat]; rfl),Option.map_some,hat]
     refine gR ?_
     rw [hg]
     exact Fin.keep (at4 rfl)
    ·have h2 : prHit l known i (i + 1 + k) = false := by unfold prHit; rw [show (decide (0 <= jointI l 0 i known) && decide (0 <= jointI l 0 ((i + 1 + k : Nat) : Int) known) && decide (0 <= jointI l 0 i (adv l.bodies.length ((i + 1 + k : Nat) : Int)))) = false from ari.symm.trans ht61, Bool.and_false]
     refine ga aas ?_
     exact gK1 hK2 (k + 1) ⟨by omega,fun j h9 => by rcases lt_or_ge j k with g | g; exact hkj j g; (have : j = k:=by omega); subst this; rw [h2]; rfl⟩
  ·have hkn : ¬ i + 1 + k < l.bodies.length := fun h => by have h1 := a6j ht23; omega
   have hat : prAt l known i = none:=by unfold prAt; rw [show l.bodies.length - (i + 1) = k by omega,ab7 hkj]; rfl
   refine ga aas ?_
   exact gK1 hK1 (i + 1) ⟨hin,fun j h9 => by rcases lt_or_ge j i with g | g; exact hj j g; (have : j = i:=by omega); subst this; rw [hat]; rfl⟩
 ·have hin := aal hi ht15
  have hg : pairG l known = none:=by unfold pairG; rw [<- hin,ab7 hj]; rfl
  refine gR ?_
  exact Fin.sub (Fin.keep (at4 rfl)) (by rw [hg]; exact Sub.tup (.cons akx (.cons (.refl _) .nil)))
theorem asa (l : Li) (hl : l.ok) (hli : liE l = 0) (known : List Bool) (hk : known.length = l.bodies.length) : Con prog 219 [l.av, .ms 1000 1 0 known.length] [(1000, some (.row 1 (known.map bl)))] (.tup [((singleG l known).getD default).av, bl (singleG l known).isSome]) [(1000, some (.row 1 (known.map bl)))] := by
 have h8 := (abr hli).2.2.2.1
 refine gF func219 (fun k z h => alt h) ?_
 refine gl ?_
 refine gL1 [2,4,11,12] [2,4,1000] (fun (i : Nat) => [(1,some (.ms 1000 1 0 known.length)),(13,some (i64 i))]) (fun _ => []) (fun i => i <= l.bodies.length /\ ∀ j,j < i -> (!sgHit l known j) = true) (fun i => l.bodies.length - i) 0 ⟨zero_le _,fun j h => by omega⟩ ?_
 rintro i ⟨hi,hj⟩ K1 hK1
 refine gC (fun ht14 => ?_) (fun ht14 => ?_)
 ·have hin := abb ht14
  refine gt (ah0 (bik hl i (by omega)) (.cons (.tmp rfl) (.cons (.tmp rfl) (.cons (.tmp rfl) .nil))) rfl rfl rfl) ?_
  refine gC (fun ht20 => ?_) (fun ht20 => ?_)
  ·have h2 : sgHit l known i = false := by unfold sgHit; rw [aeb ht20]; rfl
   refine ga aas ?_
   exact gK1 hK1 (i + 1) ⟨hin,fun k h9 => by rcases lt_or_ge k i with g | g; exact hj k g; (have : k = i:=by omega); subst this; rw [h2]; rfl⟩
  ·have hf := aea ht20
   refine gt (ah0 (bf9 hl hli 0 i hk) (.cons (.tmp rfl) (.cons (.const _) (.cons (.tmp rfl) (.cons (.tmp rfl) .nil)))) rfl rfl rfl) ?_
   refine gt (ah0 (bf9 hl hli 1 i hk) (.cons (.tmp rfl) (.cons (.const _) (.cons (.tmp rfl) (.cons (.tmp rfl) .nil)))) rfl rfl rfl) ?_
   refine gD ?_
   refine gC (fun ht34 => ?_) (fun ht34 => ?_)
   ·have h2 : sgHit l known i = false := by unfold sgHit; rw [bep ht34, Bool.and_false]
    refine ga aas ?_
    exact gK1 hK1 (i + 1) ⟨hin,fun k h9 => by rcases lt_or_ge k i with g | g; exact hj k g; (have : k = i:=by omega); subst this; rw [h2]; rfl⟩
   ·obtain ⟨p0, s0⟩ := bdk ht34
    have s1 := (aew (l := l) (kind := 1) (body := i) (oth := known)).2
    have h2 : sgHit l known i = true:=by unfold sgHit; rw [hf,decide_eq_true p0,decide_eq_true s0]; rfl
    obtain ⟨j,hjt⟩ : ∃ j,l.joints[(jointI l 1 i known).toNat]? = some j := ab6 (by omega)
    have hjd : l.joints.getD (jointI l 1 i known).toNat default = j := aar hjt
    have hg : singleG l known = some (sgG l known i):=by unfold singleG; rw [acu hin hj (by rw [h2]; rfl),Option.map_some]
    refine gi (aqm (n := (jointI l 1 i known).toNat) (by omega) hjt) ?_
    refine gC (fun ht42 => ?_) (fun ht42 => ?_)
    ·have hji : j.a = i := ahf ht42
     refine gR ?_
     rw [hg]; unfold sgG; rw [hjd]; simp only [Option.getD_some,if_pos hji]
     exact Fin.keep (at4 rfl)
    ·have hji : j.a ≠ i := aj0 ht42
     refine gR ?_
     rw [hg]; unfold sgG; rw [hjd]; simp only [Option.getD_some,if_neg hji]
     exact Fin.keep (at4 rfl)
 ·have hin := aal hi ht14
  have hg : singleG l known = none:=by unfold singleG; rw [<- hin,ab7 hj]; rfl
  refine gR ?_
  exact Fin.sub (Fin.keep (at4 rfl)) (by rw [hg]; exact Sub.tup (.cons akx (.cons (.refl _) .nil)))
end Go.Lw
namespace Go.Lw
open Go.Proofs
theorem ang {k : List Bool} {bs : List Int} {q : Nat} {x : Int} (h : bs[q]? = some x) : aao k (bs.drop q) = aao (k.set x.toNat true) (bs.drop (q + 1)) := by
 have hi := (List.getElem?_eq_some_iff.1 h).1
 rw [List.drop_eq_getElem_cons hi,(List.getElem?_eq_some_iff.1 h).2]; rfl
theorem a4g {l : Li} {n : Nat} {known : List Bool} {out : List Gr} {g : Gr} (h : nextG l known = some g) : findFrom l (n + 1) known out = findFrom l n (aao known g.bodies) (out ++ [g]) := by
 show (match nextG l known with | none => _ | some g => _) = _
 rw [h]
theorem a2y {l : Li} {n : Nat} {known : List Bool} {out : List Gr} (h : nextG l known = none) : findFrom l n known out = (known, out) := by
 cases n with
 | zero => rfl
 | succ n => show (match nextG l known with | none => _ | some g => _) = _; rw [h]
theorem am1 {α : Type} {o : Option α} (h : o.isSome = false) : o = none:=by cases o <;> simp_all
theorem a46 {α : Type} {a b : Option α} (h : a.isSome = true) : a = a.or b:=by cases a <;> simp_all
theorem arw {l : Li} {known : List Bool} (h : (driverG l known).or (pairG l known) = none) : nextG l known = singleG l known := by
 unfold nextG
 rw [<- Option.or_assoc,h]; rfl
theorem avq {l : Li} {known : List Bool} (h : ((driverG l known).or (pairG l known)).isSome = true) : nextG l known = (driverG l known).or (pairG l known) := by
 unfold nextG
 rw [<- Option.or_assoc]; exact (a46 h).symm
theorem aps (l : Li) (hl : l.ok) (hli : liE l = 0) : FnC prog 118 [l.av] (.lst 4 ((findG l).map Gr.av)) := by
 have h8 := (abr hli).2.2.2.1
 have h0 := (abr hli).2.2.2.2
 refine gF0 func118 ?_
 refine gt (aa9 (aja 900 rfl l (by omega) 0 (by omega)) (.cons (.tmp rfl) (.cons (.const _) .nil)) (by first | exact hH0 | exact hH1 rfl | exact hH2 rfl rfl) rfl rfl) ?_
 refine gl ?_
 refine gW (Wk.virt 901 4 rfl) ?_
 refine gL3 [1,13] [1] (fun (i : Nat) (known : List Bool) (out : List Gr) => [(3,some (.ms 900 1 0 known.length)),(4,some (.ms 901 4 0 out.length)),(14,some (i64 i))]) (fun _ known out => [(900,some (.row 1 (known.map bl))),(901,some (.row 4 (out.map Gr.av)))]) (fun i known out => i <= l.bodies.length /\ known.length = l.bodies.length /\ out.length <= i /\ findFrom l (l.bodies.length - i) known out = findFrom l l.bodies.length (adv l.bodies.length 0) []) (fun i _ _ => l.bodies.length - i) 0 (adv l.bodies.length 0) ([]) ⟨zero_le _,adh _ _,le_refl _,rfl⟩ ?_ (h1 := (.cons rfl (Sub.of (by rw [adh])) (.k (.k .nil))))
 rintro i known out ⟨hi,hk,hol,hff⟩ K1 hK1
 refine gC (fun ht15 => ?_) (fun ht15 => ?_) (st2 := (18,0))
 ·have hin := abb ht15
  have hd1 := Con.rekey1 900 rfl rfl rfl (ato l hl hli known hk)
  have hp1 := Con.rekey1 900 rfl rfl rfl (azs l hl hli known hk)
  have hs1 := Con.rekey1 900 rfl rfl rfl (asa l hl hli known hk)
  refine gt (aa9 hd1 (.cons (.tmp rfl) (.cons (.tmp rfl) .nil)) (by first | exact hH0 | exact hH1 rfl | exact hH2 rfl rfl) rfl rfl) ?_
  refine gJ1 [1,5,13,14] [1,900,901] (fun (o : Option Gr) => [(3,some (.ms 900 1 0 known.length)),(4,some (.ms 901 4 0 out.length)),(6,some (bl o.isSome))]) (fun o => [(5,some (.box (o.getD default).av.cells))]) (fun o => o = (driverG l known).or (pairG l known)) ?_ ?_
  ·intro K2 hK2
   refine gC (fun ht23 => ?_) (fun ht23 => ?_)
   ·refine gt (aa9 hp1 (.cons (.tmp rfl) (.cons (.tmp rfl) .nil)) (by first | exact hH0 | exact hH1 rfl | exact hH2 rfl rfl) rfl rfl) ?_
    exact jK1 hK2 (pairG l known) (by rw [am1 (aeb ht23)]; rfl)
   ·exact jK1 hK2 (driverG l known) (a46 (aea ht23))
  ·rintro o ho
   refine gJ1 [1,5,13,14] [1,900,901] (fun (og : Option Gr) => [(3,some (.ms 900 1 0 known.length)),(4,some (.ms 901 4 0 out.length)),(6,some (bl og.isSome))]) (fun og => [(5,some (.box (og.getD default).av.cells))]) (fun og => og = nextG l known) ?_ ?_
   ·intro K3 hK3
    refine gC (fun ht31 => ?_) (fun ht31 => ?_)
    ·refine gt (aa9 hs1 (.cons (.tmp rfl) (.cons (.tmp rfl) .nil)) (by first | exact hH0 | exact hH1 rfl | exact hH2 rfl rfl) rfl rfl) ?_
     exact jK1 hK3 (singleG l known) (by have := am1 (aeb ht31); rw [ho] at this; exact (arw this).symm)
    ·exact jK1 hK3 o (by rw [ho]; exact (avq (by rw [<- ho]; exact aea ht31)).symm)
   ·rintro og hog
    refine gC (fun ht39 => ?_) (fun ht39 => ?_) (st1 := (18,0))
    ·have hn : nextG l known = none := by rw [<- hog]; exact am1 (aeb ht39)
     have hfin : findG l = out:=by unfold findG; rw [<- hff,a2y hn]
     refine gW ((Wk.freeze (k := 901) rfl).trans <| Wk.of (sl := [(4,some (.lst 4 ((findG l).map Gr.av)))]) (hp := []) (.cons rfl (Sub.of (by rw [hfin,abw (by rw [length_map])])) .nil) .nil) ?_
     refine gE1 ?_
     rfl
    ·obtain ⟨g, hg⟩ : ∃ g, og = some g := Option.isSome_iff_exists.1 (aea ht39)
     have hng : nextG l known = some g:=by rw [<- hog,hg]
     have hgo := ap8 hli hng
     subst hg
     refine gs (abh (.tmp rfl) rfl (by rw [length_map]) (.tmp rfl) T86 rfl T129 rfl rfl (by dsimp only; simp only [length_cons,length_nil]; omega) rfl rfl) ?_ (12,0)
     refine gW (Wk.of (sl := [(1,some (.ptr 1 0)),(3,some (.ms 900 1 0 known.length)),(4,some (.ms 43 4 0 (out ++ [g]).length)),(5,some (.ptr 5 0)),(13,some (i64 l.bodies.length)),(14,some (i64 i))]) (hp := [(1,some (.box l.av.cells)),(5,some (.box g.av.cells)),(900,some (.row 1 (known.map bl))),(43,some (.row 4 ((out ++ [g]).map Gr.av)))]) (.k (.k (.cons rfl (Sub.of (by rw [length_append]; rfl)) (.k (.k (.k .nil)))))) (.cons rfl (.refl _) (.cons rfl (.refl _) (.cons rfl (.refl _) (.cons rfl (BlkSub.of (by rw [map_append]; rfl)) .nil))))) ?_ (12,0)
     refine gW (Wk.rekey (k := 43) (d := 901) rfl rfl) ?_
     refine gl ?_
     refine gL2 [1,13,14,45,46] [1,901] (fun (q : Nat) (kk : List Bool) => [(3,some (.ms 900 1 0 kk.length)),(4,some (.ms 901 4 0 (out ++ [g]).length)),(47,some (i64 q))]) (fun _ kk => [(900,some (.row 1 (kk.map bl)))]) (fun q kk => q <= g.bodies.length /\ kk.length = l.bodies.length /\ aao kk (g.bodies.drop q) = aao known g.bodies) (fun q _ => g.bodies.length - q) 0 known ⟨zero_le _,hk,rfl⟩ ?_
     rintro q kk ⟨hq,hkk,hmk⟩ K4 hK4
     refine gC (fun ht48 => ?_) (fun ht48 => ?_)
     ·have hqn := abb ht48
      obtain ⟨x,hx⟩ := ab6 hqn
      have hxb := hgo.b x (mem_of_getElem? hx)
      obtain ⟨v,hv⟩ : ∃ v,kk[x.toNat]? = some v := ab6 (by omega)
      refine gi (aae hx) ?_
      refine gs (ag7 (.tmp rfl) (.tmp rfl) T162 rfl T4 rfl (by omega) (by omega) rfl) ?_
      refine gs (abk (.tmp rfl) rfl (by rw [Nat.zero_add,getElem?_map,hv]; rfl) rfl (.const _) rfl rfl T4 rfl rfl) ?_
      refine ga (ax3 (by have := hgo.lb; unfold ack; omega)) ?_
      exact gK2 hK4 (q + 1) (kk.set x.toNat true) ⟨hqn,by rw [List.length_set]; exact hkk,by rw [<- ang hx]; exact hmk⟩ (hw := Wk.of (.cons rfl (Sub.of (by rw [List.length_set])) (.k (.k (.k (.k (.k (.k (.k .nil)))))))) (.cons rfl (BlkSub.of (by rw [map_set,Nat.zero_add]; rfl)) (.cons rfl (.refl _) (.cons rfl (.refl _) .nil))))
     ·have hqn := aal hq ht48
      have hmk2 : kk = aao known g.bodies:=by rw [hqn,List.drop_length] at hmk; exact hmk
      refine ga aas ?_
      exact gK3 hK1 (i + 1) kk (out ++ [g]) ⟨hin,hkk,by rw [length_append]; simp only [length_cons,length_nil]; omega,by rw [hmk2,<- a4g hng,<- hff]; congr 1; omega⟩
 ·have hin := aal hi ht15
  have hfin : findG l = out:=by unfold findG; rw [<- hff,show l.bodies.length - i = 0 by omega]; rfl
  refine gW ((Wk.freeze (k := 901) rfl).trans <| Wk.of (sl := [(4,some (.lst 4 ((findG l).map Gr.av)))]) (hp := []) (.cons rfl (Sub.of (by rw [hfin,abw (by rw [length_map])])) .nil) .nil) ?_
  refine gE1 ?_
  rfl
end Go.Lw
namespace Go.Lw
open Go.Proofs
theorem asj {α : Type} {f : List Bool -> α -> List Bool} {k : List Bool} {l : List α} {i : Nat} {x : α} (h : l[i]? = some x) : (l.drop i).foldl f k = (l.drop (i + 1)).foldl f (f k x) := by
 have hi := (List.getElem?_eq_some_iff.1 h).1
 rw [List.drop_eq_getElem_cons hi,(List.getElem?_eq_some_iff.1 h).2]; rfl
def unm (k : List Bool) (i : Nat) : List Int := ((List.range i).filter (fun j => !k.getD j false)).map (fun j : Nat => ((j : Nat) : Int))
theorem a2t {k : List Bool} {i : Nat} (h : k.getD i false = false) : unm k (i + 1) = unm k i ++ [(i : Int)] := by
 unfold unm
 rw [List.range_succ,List.filter_append,map_append,List.filter_cons,h]; rfl
theorem av8 {k : List Bool} {i : Nat} (h : k.getD i false = true) : unm k (i + 1) = unm k i := by
 unfold unm
 rw [List.range_succ,List.filter_append,map_append,List.filter_cons,h]; simp
theorem arf (k : List Bool) (i : Nat) : (unm k i).length <= i := by
 unfold unm
 rw [length_map]
 exact le_trans (List.length_filter_le _ _) (by simp)
theorem aia {α : Type} {f : α -> List Int} : ∀ (gs : List α) (k : List Bool), (gs.foldl (fun k g => aao k (f g)) k).length = k.length
 | [],k => rfl
 | g :: gs,k => by rw [List.foldl_cons,aia gs,aer]
theorem bb2 (l : Li) : (ab5 (ac2 l)).length <= l.bodies.length := by
 have h := arf (ac2 l) (ac2 l).length
 have e : (ac2 l).length = l.bodies.length:=by unfold ac2; rw [aia,adh]
 rw [e] at h
 unfold ab5; rw [e]; exact h
theorem bcq (l : Li) : (ab5 (afn l)).length <= l.joints.length := by
 have h := arf (afn l) (afn l).length
 have e : (afn l).length = l.joints.length:=by unfold afn; rw [aia,List.length_replicate]
 rw [e] at h
 unfold ab5; rw [e]; exact h
theorem ay5 (l : Li) (hl : l.ok) (hli : liE l = 0) : FnC prog 117 [l.av] (.tup [.lst 1 ((ab5 (ac2 l)).map i64), .lst 1 ((ab5 (afn l)).map i64)]) := by
 have h8 := (abr hli).2.2.2.1
 have h0 := (abr hli).2.2.2.2
 have hj16 : l.joints.length <= 16:=by have := (abr hli).2.1; unfold akr at this; split at this; cases this; omega
 obtain ⟨hgo,hgl⟩ := akb hli
 refine gF0 func117 ?_
 refine gt (aa9 (aja 900 rfl l (by omega) 0 (by omega)) (.cons (.tmp rfl) (.cons (.const _) .nil)) (by first | exact hH0 | exact hH1 rfl | exact hH2 rfl rfl) rfl rfl) ?_
 refine gl ?_
 refine gs (afh (.tmp rfl) T162 rfl T4 rfl rfl (by omega) (by dsimp only; omega) rfl) ?_
 refine gD ?_ (2,0)
 refine gW (Wk.of (sl := [(1,some (.ptr 1 0)),(2,some (.v (.slice none 0 0))),(3,some (.v (.slice none 0 0))),(4,some (.ms 900 1 0 (adv l.bodies.length 0).length)),(5,some (.ms 21 1 0 (List.replicate l.joints.length false).length))]) (hp := [(1,some (.box l.av.cells)),(900,some (.row 1 ((adv l.bodies.length 0).map bl))),(21,some (.row 1 ((List.replicate l.joints.length false).map bl)))]) (.k (.k (.k (.cons rfl (Sub.of (by rw [adh])) (.cons rfl (Sub.of (by rw [List.length_replicate,toNat_natCast])) .nil))))) (.cons rfl (.refl _) (.cons rfl (.refl _) (.cons rfl (BlkSub.of (by rw [map_replicate,toNat_natCast]; rfl)) .nil)))) ?_ (2,0)
 refine gW (Wk.rekey (k := 21) (d := 901) rfl rfl) ?_
 refine gc (aps l hl hli) ?_
 refine gl ?_
 refine gL3 [1,2,3,23,24] [1] (fun (i : Nat) (k1 k2 : List Bool) => [(4,some (.ms 900 1 0 k1.length)),(5,some (.ms 901 1 0 k2.length)),(25,some (i64 i))]) (fun _ k1 k2 => [(900,some (.row 1 (k1.map bl))),(901,some (.row 1 (k2.map bl)))]) (fun i k1 k2 => i <= (findG l).length /\ k1.length = l.bodies.length /\ k2.length = l.joints.length /\ ((findG l).drop i).foldl (fun k g => aao k g.bodies) k1 = ac2 l /\ ((findG l).drop i).foldl (fun k g => aao k g.joints) k2 = afn l) (fun i _ _ => (findG l).length - i) 0 (adv l.bodies.length 0) (List.replicate l.joints.length false) ⟨zero_le _,adh _ _,List.length_replicate,rfl,rfl⟩ ?_
 rintro i k1 k2 ⟨hi,hk1,hk2,hf1,hf2⟩ K1 hK1
 refine gC (fun ht26 => ?_) (fun ht26 => ?_)
 ·have hin := abb ht26
  obtain ⟨g,hg⟩ := ab6 hin
  have hgk := hgo g (mem_of_getElem? hg)
  have hlb := hgk.lb
  have hlj := hgk.lj
  refine gi (aae hg) ?_
  refine gl ?_
  refine gL2 [1,2,3,7,23,24,25,30,31] [1,7,901] (fun (q : Nat) (kk : List Bool) => [(4,some (.ms 900 1 0 kk.length)),(5,some (.ms 901 1 0 k2.length)),(32,some (i64 q))]) (fun _ kk => [(900,some (.row 1 (kk.map bl)))]) (fun q kk => q <= g.bodies.length /\ kk.length = l.bodies.length /\ aao kk (g.bodies.drop q) = aao k1 g.bodies) (fun q _ => g.bodies.length - q) 0 k1 ⟨zero_le _,hk1,rfl⟩ ?_
  rintro q kk ⟨hq,hkk,hmk⟩ K2 hK2
  refine gC (fun ht33 => ?_) (fun ht33 => ?_)
  ·have hqn := abb ht33
   obtain ⟨x,hx⟩ := ab6 hqn
   have hxb := hgk.b x (mem_of_getElem? hx)
   obtain ⟨v,hv⟩ : ∃ v,kk[x.toNat]? = some v := ab6 (by omega)
   refine gi (aae hx) ?_
   refine gs (ag7 (.tmp rfl) (.tmp rfl) T162 rfl T4 rfl (by omega) (by omega) rfl) ?_
   refine gs (abk (.tmp rfl) rfl (by rw [Nat.zero_add,getElem?_map,hv]; rfl) rfl (.const _) rfl rfl T4 rfl rfl) ?_
   refine ga aas ?_
   exact gK2 hK2 (q + 1) (kk.set x.toNat true) ⟨hqn,by rw [List.length_set]; exact hkk,by rw [<- ang hx]; exact hmk⟩ (hw := Wk.of (.cons rfl (Sub.of (by rw [List.length_set])) (.k (.k (.k (.k (.k (.k (.k (.k (.k (.k (.k .nil)))))))))))) (.cons rfl (BlkSub.of (by rw [map_set,Nat.zero_add]; rfl)) (.cons rfl (.refl _) (.cons rfl (.refl _) (.cons rfl (.refl _) .nil)))))
  ·have hqn := aal hq ht33
   have hmk2 : kk = aao k1 g.bodies:=by rw [hqn,List.drop_length] at hmk; exact hmk
   refine gl ?_
   refine gL2 [1,2,3,23,24,25,41,42] [1,900] (fun (p : Nat) (jj : List Bool) => [(4,some (.ms 900 1 0 kk.length)),(5,some (.ms 901 1 0 jj.length)),(43,some (i64 p))]) (fun _ jj => [(901,some (.row 1 (jj.map bl)))]) (fun p jj => p <= g.joints.length /\ jj.length = l.joints.length /\ aao jj (g.joints.drop p) = aao k2 g.joints) (fun p _ => g.joints.length - p) 0 k2 ⟨zero_le _,hk2,rfl⟩ ?_
   rintro p jj ⟨hp,hjj,hmj⟩ K3 hK3
   refine gC (fun ht44 => ?_) (fun ht44 => ?_)
   ·have hpn := abb ht44
    obtain ⟨x,hx⟩ := ab6 hpn
    have hxb := hgk.j x (mem_of_getElem? hx)
    obtain ⟨v,hv⟩ : ∃ v,jj[x.toNat]? = some v := ab6 (by omega)
    refine gi (aae hx) ?_
    refine gs (ag7 (.tmp rfl) (.tmp rfl) T162 rfl T4 rfl (by omega) (by omega) rfl) ?_
    refine gs (abk (.tmp rfl) rfl (by rw [Nat.zero_add,getElem?_map,hv]; rfl) rfl (.const _) rfl rfl T4 rfl rfl) ?_
    refine ga aas ?_
    exact gK2 hK3 (p + 1) (jj.set x.toNat true) ⟨hpn,by rw [List.length_set]; exact hjj,by rw [<- ang hx]; exact hmj⟩ (hw := Wk.of (.k (.cons rfl (Sub.of (by rw [List.length_set])) (.k (.k (.k (.k (.k (.k (.k (.k (.k .nil))))))))))) (.cons rfl (BlkSub.of (by rw [map_set,Nat.zero_add]; rfl)) (.cons rfl (.refl _) (.cons rfl (.refl _) .nil))))
   ·have hpn := aal hp ht44
    have hmj2 : jj = aao k2 g.joints:=by rw [hpn,List.drop_length] at hmj; exact hmj
    refine ga aas ?_
    exact gK3 hK1 (i + 1) kk jj ⟨hin,hkk,hjj,by rw [hmk2,<- hf1,asj hg],by rw [hmj2,<- hf2,asj hg]⟩
 ·have hin := aal hi ht26
  have e1 : k1 = ac2 l:=by rw [hin,List.drop_length] at hf1; exact hf1
  have e2 : k2 = afn l:=by rw [hin,List.drop_length] at hf2; exact hf2
  refine gW (Wk.virt 902 1 rfl) ?_
  refine gL1 [3,53] [900,901] (fun (i : Nat) => [(2,some (.ms 902 1 0 (unm k1 i).length)),(5,some (.ms 901 1 0 k2.length)),(52,some (.ms 900 1 0 k1.length)),(54,some (i64 i))]) (fun i => [(902,some (.row 1 ((unm k1 i).map i64)))]) (fun i => i <= k1.length) (fun i => k1.length - i) 0 (zero_le _) ?_
  rintro i ha K4 hK4
  refine gC (fun ht55 => ?_) (fun ht55 => ?_) (st2 := (22,0))
  ·have hin6 := abb ht55
   obtain ⟨v,hv⟩ := ab6 hin6
   have hvd : k1.getD i false = v := aar hv
   have hul := arf k1 i
   refine gs (ag7 (.tmp rfl) (.tmp rfl) T162 rfl T4 rfl (by omega) (by omega) rfl) ?_
   refine gs (aay (.tmp rfl) rfl (by rw [Nat.zero_add,toNat_natCast,getElem?_map,hv]; rfl) T4 rfl rfl rfl) ?_
   refine gC (fun ht60 => ?_) (fun ht60 => ?_)
   ·have hu := a2t (k := k1) (i := i) (by rw [hvd]; exact aeb ht60)
    refine gs (abh (.tmp rfl) rfl (by rw [length_map]) (.tmp rfl) T31 rfl T3 rfl rfl (by dsimp only; simp only [length_cons,length_nil]; omega) rfl rfl) ?_ (21,0)
    refine gW (Wk.of (sl := [(2,some (.ms 64 1 0 (unm k1 (i + 1)).length)),(3,some (.v (.slice none 0 0))),(5,some (.ms 901 1 0 k2.length)),(52,some (.ms 900 1 0 k1.length)),(53,some (i64 k1.length)),(54,some (i64 i))]) (hp := [(900,some (.row 1 (k1.map bl))),(901,some (.row 1 (k2.map bl))),(64,some (.row 1 ((unm k1 (i + 1)).map i64)))]) (.cons rfl (Sub.of (by rw [hu,length_append]; rfl)) (.k (.k (.k (.k (.k .nil)))))) (.cons rfl (.refl _) (.cons rfl (.refl _) (.cons rfl (BlkSub.of (by rw [hu,map_append]; rfl)) .nil)))) ?_ (21,0)
    refine gW (Wk.rekey (k := 64) (d := 902) rfl rfl) ?_
    refine ga aas ?_
    exact gK1 hK4 (i + 1) hin6 (hw := Wk.of (.cons rfl (Sub.of (by first | rw [hu]; done | rfl)) (.k (.k (.k (.k (.k .nil)))))) (.cons rfl (BlkSub.of (by first | rw [hu]; done | rfl)) (.cons rfl (.refl _) (.cons rfl (.refl _) .nil))))
   ·have hu := av8 (k := k1) (i := i) (by rw [hvd]; exact aea ht60)
    refine ga aas ?_
    exact gK1 hK4 (i + 1) hin6 (hw := Wk.of (.cons rfl (Sub.of (by first | rw [hu]; done | rfl)) (.k (.k (.k (.k (.k .nil)))))) (.cons rfl (BlkSub.of (by first | rw [hu]; done | rfl)) (.cons rfl (.refl _) (.cons rfl (.refl _) .nil))))
  ·have hin6 := aal ha ht55
   refine gW ((Wk.freeze (k := 902) rfl).trans <| Wk.of (sl := [(2,some (.lst 1 ((ab5 (ac2 l)).map i64))),(3,some (.v (.slice none 0 0))),(5,some (.ms 901 1 0 k2.length))]) (hp := [(901,some (.row 1 (k2.map bl)))]) (.cons rfl (Sub.of (by rw [abw (by rw [length_map]),hin6,e1]; rfl)) (.k (.k .nil))) (.cons rfl (.refl _) .nil)) ?_
   refine gW (Wk.virt 902 1 rfl) ?_
   refine gL1 [2,67] [901] (fun (i : Nat) => [(3,some (.ms 902 1 0 (unm k2 i).length)),(66,some (.ms 901 1 0 k2.length)),(68,some (i64 i))]) (fun i => [(902,some (.row 1 ((unm k2 i).map i64)))]) (fun i => i <= k2.length) (fun i => k2.length - i) 0 (zero_le _) ?_
   rintro i hb K5 hK5
   refine gC (fun ht69 => ?_) (fun ht69 => ?_) (st2 := (28,0))
   ·have hin8 := abb ht69
    obtain ⟨v,hv⟩ := ab6 hin8
    have hvd : k2.getD i false = v := aar hv
    have hul := arf k2 i
    refine gs (ag7 (.tmp rfl) (.tmp rfl) T162 rfl T4 rfl (by omega) (by omega) rfl) ?_
    refine gs (aay (.tmp rfl) rfl (by rw [Nat.zero_add,toNat_natCast,getElem?_map,hv]; rfl) T4 rfl rfl rfl) ?_
    refine gC (fun ht74 => ?_) (fun ht74 => ?_)
    ·have hu := a2t (k := k2) (i := i) (by rw [hvd]; exact aeb ht74)
     refine gs (abh (.tmp rfl) rfl (by rw [length_map]) (.tmp rfl) T31 rfl T3 rfl rfl (by dsimp only; simp only [length_cons,length_nil]; omega) rfl rfl) ?_ (27,0)
     refine gW (Wk.of (sl := [(2,some (.lst 1 ((ab5 (ac2 l)).map i64))),(3,some (.ms 78 1 0 (unm k2 (i + 1)).length)),(66,some (.ms 901 1 0 k2.length)),(67,some (i64 k2.length)),(68,some (i64 i))]) (hp := [(901,some (.row 1 (k2.map bl))),(78,some (.row 1 ((unm k2 (i + 1)).map i64)))]) (.k (.cons rfl (Sub.of (by rw [hu,length_append]; rfl)) (.k (.k (.k .nil))))) (.cons rfl (.refl _) (.cons rfl (BlkSub.of (by rw [hu,map_append]; rfl)) .nil))) ?_ (27,0)
     refine gW (Wk.rekey (k := 78) (d := 902) rfl rfl) ?_
     refine ga aas ?_
     exact gK1 hK5 (i + 1) hin8 (hw := Wk.of (.cons rfl (Sub.of (by first | rw [hu]; done | rfl)) (.k (.k (.k (.k .nil))))) (.cons rfl (BlkSub.of (by first | rw [hu]; done | rfl)) (.cons rfl (.refl _) .nil)))
    ·have hu := av8 (k := k2) (i := i) (by rw [hvd]; exact aea ht74)
     refine ga aas ?_
     exact gK1 hK5 (i + 1) hin8 (hw := Wk.of (.cons rfl (Sub.of (by first | rw [hu]; done | rfl)) (.k (.k (.k (.k .nil))))) (.cons rfl (BlkSub.of (by first | rw [hu]; done | rfl)) (.cons rfl (.refl _) .nil)))
   ·have hin8 := aal hb ht69
    refine gW ((Wk.freeze (k := 902) rfl).trans <| Wk.of (sl := [(2,some (.lst 1 ((ab5 (ac2 l)).map i64))),(3,some (.lst 1 ((ab5 (afn l)).map i64)))]) (hp := []) (.k (.cons rfl (Sub.of (by rw [abw (by rw [length_map]),hin8,e2]; rfl)) .nil)) .nil) ?_
    refine gE2 ?_
    rfl
theorem aji (l : Li) (hl : l.ok) (hli : liE l = 0) : FnC prog 39 [l.av] (.tup [.lst 4 ((splitG l).map Gr.av), i64 (splitE l)]) := by
 have h8 := (abr hli).2.2.2.1
 have hj16 : l.joints.length <= 16:=by have := (abr hli).2.1; unfold akr at this; split at this; cases this; omega
 have u1 := bb2 l
 have u2 := bcq l
 refine gF0 func39 ?_
 refine gc (ay5 l hl hli) ?_
 refine gl ?_
 refine gl ?_
 refine ga (aa2 (by omega)) ?_
 refine gC (fun ht16 => ?_) (fun ht16 => ?_)
 ·have h1 : 0 < (ab5 (ac2 l)).length + (ab5 (afn l)).length := amj ht16
  have hE : splitE l = 7:=by unfold splitE; rw [if_neg (by omega)]
  refine gR ?_
  exact ae5 (by unfold splitG; rw [if_neg (by rw [hE]; decide),hE]; exact Sub.tup (.cons (.nil _ _ _) (.cons (.refl _) .nil)))
 ·have h1 : (ab5 (ac2 l)).length + (ab5 (afn l)).length <= 0 := aoj ht16
  have hE : splitE l = 0:=by unfold splitE; rw [if_pos (by omega)]
  refine gc (aps l hl hli) ?_
  refine gE2 ?_
  unfold splitG; rw [if_pos hE,hE]; rfl
end Go.Lw
namespace Go.Lw
open Go.Proofs
def a9e (r : Rt) : Bool := !(cond (cond (cond (aaa .gtr (r.num.length : Int) 1) true (aaa .gtr (r.den.length : Int) 1)) true (cond (aaa .eql (r.num.length : Int) 1) (aaa .gtr (aab r.num 0 : Int) 400) false)) true
  (cond (aaa .eql (r.den.length : Int) 1) (aaa .gtr (aab r.den 0 : Int) 20) false))
theorem ate (rs : List Rt) (hl : rs.length <= 1000) : FnC prog 92 [.lst 3 (rs.map Rt.av)] (bl (rs.all a9e)) := by
 refine gF0 func92 ?_
 refine gl ?_
 refine gL1 [5,6] [] (fun (i : Nat) => [(7,some (i64 i))]) (fun _ => []) (fun i => i <= rs.length /\ (rs.take i).all a9e = true) (fun i => rs.length - i) 0 ⟨zero_le _,rfl⟩ ?_
 rintro i ⟨hi,hj⟩ K1 hK1
 refine gC (fun ht8 => ?_) (fun ht8 => ?_)
 ·have hin := abb ht8
  obtain ⟨r,hr⟩ := ab6 hin
  refine gi (aae hr) ?_
  refine gl ?_
  refine glG ?_
  refine glG ?_
  refine giG (fun ⟨h,h2⟩ => (af3 (by have := ahf h2; have e : Int.toNat 0 = 0 := rfl; omega))) ?_
  refine glG ?_
  refine giG (fun ⟨h,h2⟩ => (af3 (by have := ahf h2; have e : Int.toNat 0 = 0 := rfl; omega))) ?_
  refine gC (fun ht46 => ?_) (fun ht46 => ?_)
  ·have h1 : a9e r = false := congrArg Bool.not ht46
   refine gE1 ?_
   rw [aeq hr h1]; rfl
  ·have h1 : a9e r = true := congrArg Bool.not ht46
   refine ga aas ?_
   exact gK1 hK1 (i + 1) ⟨hin,ae7 hj hr h1⟩
 ·have hin := aal hi ht8
  refine gE1 ?_
  rw [ag1 hin hj]; rfl
def tnB (x : Tn) : Bool := decide (x.t.num.length <= 1 /\ x.t.den.length <= 1)
def mk1 (m : Mk) : Bool := decide (m.x.num.length <= 1 /\ m.x.den.length <= 1 /\ m.y.num.length <= 1 /\ m.y.den.length <= 1)
def bgt (xs : List Tn) : Bool := xs.all (fun x => [x.t].all a9e)
def bgn (ps : List Mk) : Bool := ps.all (fun p => [p.x,p.y].all a9e)
def bgm (l : Li) : Bool := l.bodies.all (fun b => bgn b.pts)
theorem a4k (l : Li) (hl : l.ok) (xs : List Tn) (hxl : xs.length <= 281474976710656) : FnC prog 107 [l.av, .lst 4 (xs.map Tn.av)] (bl (bgt xs && bgm l)) := by
 have hlb := hl.lb
 refine gF0 func107 ?_
 refine gl ?_
 refine gL1 [2,11,12] [2] (fun (i : Nat) => [(13,some (i64 i))]) (fun _ => []) (fun i => i <= xs.length /\ (xs.take i).all (fun x => [x.t].all a9e) = true) (fun i => xs.length - i) 0 ⟨zero_le _,rfl⟩ ?_
 rintro i ⟨hi,hj⟩ K1 hK1
 refine gC (fun ht14 => ?_) (fun ht14 => ?_)
 ·have hin := abb ht14
  obtain ⟨x,hx⟩ := ab6 hin
  refine gi (aae hx) ?_
  refine gc (ate [x.t] (by show 1 <= _; omega)) ?_
  refine gC (fun ht21 => ?_) (fun ht21 => ?_)
  ·have h1 := aeb ht21
   refine gE1 ?_
   unfold bgt; rw [aeq hx h1]; rfl
  ·have h1 := aea ht21
   refine ga aas ?_
   exact gK1 hK1 (i + 1) ⟨hin,ae7 hj hx h1⟩
 ·have hT : bgt xs = true := ag1 (aal hi ht14) hj
  refine gl ?_
  refine gL1 [2,24,25] [2] (fun (i : Nat) => [(26,some (i64 i))]) (fun _ => []) (fun i => i <= l.bodies.length /\ (l.bodies.take i).all (fun b => bgn b.pts) = true) (fun i => l.bodies.length - i) 0 ⟨zero_le _,rfl⟩ ?_
  rintro i ⟨hi2,hj2⟩ K2 hK2
  refine gC (fun ht27 => ?_) (fun ht27 => ?_)
  ·have hin := abb ht27
   obtain ⟨b,hb⟩ := ab6 hin
   have hbl := (hl.bodies b (mem_of_getElem? hb)).ll
   refine gi (aae hb) ?_
   refine gl ?_
   refine gL1 [2,24,25,26,31,32] [2] (fun (k : Nat) => [(33,some (i64 k))]) (fun _ => []) (fun k => k <= b.pts.length /\ (b.pts.take k).all (fun p => [p.x,p.y].all a9e) = true) (fun k => b.pts.length - k) 0 ⟨zero_le _,rfl⟩ ?_
   rintro k ⟨hk,hkj⟩ K3 hK3
   refine gC (fun ht34 => ?_) (fun ht34 => ?_)
   ·have hkn := abb ht34
    obtain ⟨p,hp⟩ := ab6 hkn
    refine gi (aae hp) ?_
    refine gc (ate [p.x,p.y] (by show 2 <= _; omega)) ?_
    refine gC (fun ht43 => ?_) (fun ht43 => ?_)
    ·have h1 := aeb ht43
     refine gE1 ?_
     rw [hT]; unfold bgm; rw [aeq hb (by unfold bgn; exact aeq hp h1)]; rfl
    ·have h1 := aea ht43
     refine ga aas ?_
     exact gK1 hK3 (k + 1) ⟨hkn,ae7 hkj hp h1⟩
   ·have hP : bgn b.pts = true := ag1 (aal hk ht34) hkj
    refine ga aas ?_
    exact gK1 hK2 (i + 1) ⟨hin,ae7 hj2 hb hP⟩
  ·have hL : bgm l = true := ag1 (aal hi2 ht27) hj2
   refine gE1 ?_
   rw [hT,hL]; rfl
def bi0 (l : Li) (xs : List Tn) : Bool :=
  cond (cond (aaa .neq (splitE l : Int) 0) true (aaa .leq (((splitG l).length : Int) - l.drivers.length) 1)) true (cond (aaa .eql (((splitG l).length : Int) - l.drivers.length) 2) (bgt xs && bgm l) false)
def a80 (l : Li) (xs : List Tn) : Bool :=
  (liB l && decide (xs.length <= 20)) && (xs.all tnB && (l.bodies.all (fun b => b.pts.all mk1) && (if liE l = 0 then bi0 l xs else true)))
theorem bih {l : Li} {n : Nat} (h : cond (!liB l) true (aaa .gtr (n : Int) 20) = true) : (liB l && decide (n <= 20)) = false := by
 cases hb : liB l
 ·rfl
 ·rw [hb] at h
  have h1 : 20 < n := amj (b := 20) h
  rw [decide_eq_false (by omega)]; rfl
theorem bhg {l : Li} {n : Nat} (h : cond (!liB l) true (aaa .gtr (n : Int) 20) = false) : liB l = true /\ n <= 20 := by
 cases hb : liB l
 ·rw [hb] at h; cases h
 ·rw [hb] at h; exact ⟨rfl,aoj (b := 20) h⟩
theorem bis {x : Tn} : cond (aaa .gtr (x.t.num.length : Int) 1) true (aaa .gtr (x.t.den.length : Int) 1) = !tnB x := by
 unfold tnB
 have e1 := aot (n := x.t.num.length) (k := 1)
 have e2 := aot (n := x.t.den.length) (k := 1)
 rw [agm]
 refine (congr (congrArg _ e1) e2).trans ?_
 rw [<- Bool.decide_or,<- decide_not]
 exact decide_eq_decide.2 (by omega)
theorem bd5 {m : Mk} : cond (cond (cond (aaa .gtr (m.x.num.length : Int) 1) true (aaa .gtr (m.x.den.length : Int) 1)) true (aaa .gtr (m.y.num.length : Int) 1)) true (aaa .gtr (m.y.den.length : Int) 1) = !mk1 m := by
 unfold mk1
 have e1 := aot (n := m.x.num.length) (k := 1)
 have e2 := aot (n := m.x.den.length) (k := 1)
 have e3 := aot (n := m.y.num.length) (k := 1)
 have e4 := aot (n := m.y.den.length) (k := 1)
 rw [agm,agm,agm]
 refine (congr (congrArg _ (congr (congrArg _ (congr (congrArg _ e1) e2)) e3)) e4).trans ?_
 rw [<- Bool.decide_or,<- Bool.decide_or,<- Bool.decide_or,<- decide_not]
 exact decide_eq_decide.2 (by omega)
theorem ayt {l : Li} (hl : liE l = 0) : (splitG l).length <= 8 := by
 unfold splitG; split
 ·exact (akb hl).2
 ·exact zero_le _
theorem aog (l : Li) (hw : l.okw) (xs : List Tn) (hxl : xs.length <= 281474976710656) : FnC prog 33 [l.av, .lst 4 (xs.map Tn.av)] (bl (a80 l xs)) := by
 refine gF0 func33 ?_
 refine gc (au9 l hw) ?_
 refine glG ?_
 refine gC (fun ht21 => ?_) (fun ht21 => ?_)
 ·have h1 := bih ht21
  refine gE1 ?_
  unfold a80; rw [h1]; rfl
 ·obtain ⟨g1, g2⟩ := bhg ht21
  have hl := a37 g1 hw
  have hlb := hl.lb
  refine gl ?_
  refine gL1 [1,2,22,23] [2] (fun (i : Nat) => [(24,some (i64 i))]) (fun _ => []) (fun i => i <= xs.length /\ (xs.take i).all tnB = true) (fun i => xs.length - i) 0 ⟨zero_le _,rfl⟩ ?_
  rintro i ⟨hi,hj⟩ K1 hK1
  refine gC (fun ht25 => ?_) (fun ht25 => ?_)
  ·have hin := abb ht25
   obtain ⟨x,hx⟩ := ab6 hin
   refine gi (aae hx) ?_
   refine gl ?_
   refine glG ?_
   refine gC (fun ht39 => ?_) (fun ht39 => ?_)
   ·have h1 : tnB x = false := by rw [bis] at ht39; exact aeb ht39
    refine gE1 ?_
    unfold a80; rw [g1,decide_eq_true g2,aeq hx h1]; rfl
   ·have h1 : tnB x = true := by rw [bis] at ht39; exact aea ht39
    refine ga aas ?_
    exact gK1 hK1 (i + 1) ⟨hin,ae7 hj hx h1⟩
  ·have hT : xs.all tnB = true := ag1 (aal hi ht25) hj
   refine gl ?_
   refine gL1 [1,2,42,43] [2] (fun (i : Nat) => [(44,some (i64 i))]) (fun _ => []) (fun i => i <= l.bodies.length /\ (l.bodies.take i).all (fun b => b.pts.all mk1) = true) (fun i => l.bodies.length - i) 0 ⟨zero_le _,rfl⟩ ?_
   rintro i ⟨hi2,hj2⟩ K2 hK2
   refine gC (fun ht45 => ?_) (fun ht45 => ?_)
   ·have hin := abb ht45
    obtain ⟨b,hb⟩ := ab6 hin
    have hbl := (hl.bodies b (mem_of_getElem? hb)).ll
    refine gi (aae hb) ?_
    refine gl ?_
    refine gL1 [1,2,42,43,44,49,50] [2] (fun (k : Nat) => [(51,some (i64 k))]) (fun _ => []) (fun k => k <= b.pts.length /\ (b.pts.take k).all mk1 = true) (fun k => b.pts.length - k) 0 ⟨zero_le _,rfl⟩ ?_
    rintro k ⟨hk,hkj⟩ K3 hK3
    refine gC (fun ht52 => ?_) (fun ht52 => ?_)
    ·have hkn := abb ht52
     obtain ⟨p,hp⟩ := ab6 hkn
     refine gi (aae hp) ?_
     refine gl ?_
     refine glG ?_
     refine glG ?_
     refine glG ?_
     refine gC (fun ht80 => ?_) (fun ht80 => ?_)
     ·have h1 : mk1 p = false := by rw [bd5] at ht80; exact aeb ht80
      refine gE1 ?_
      unfold a80; rw [g1,decide_eq_true g2,hT,aeq hb (aeq hp h1)]; rfl
     ·have h1 : mk1 p = true := by rw [bd5] at ht80; exact aea ht80
      refine ga aas ?_
      exact gK1 hK3 (k + 1) ⟨hkn,ae7 hkj hp h1⟩
    ·have hP : b.pts.all mk1 = true := ag1 (aal hk ht52) hkj
     refine ga aas ?_
     exact gK1 hK2 (i + 1) ⟨hin,ae7 hj2 hb hP⟩
   ·have hL : l.bodies.all (fun b => b.pts.all mk1) = true := ag1 (aal hi2 ht45) hj2
    refine gc (agx l hl) ?_
    refine gC (fun ht85 => ?_) (fun ht85 => ?_)
    ·have h1 := anb ht85
     refine gE1 ?_
     unfold a80; rw [g1,decide_eq_true g2,hT,hL,if_neg h1]; rfl
    ·have h1 := alz ht85
     have hsl := ayt h1
     have hld := hl.ld
     refine gc (aji l hl h1) ?_
     refine gl ?_
     refine gl ?_
     refine ga (abd (by omega)) ?_
     refine gcG (fun _ => (a4k l hl xs hxl)) ?_
     refine gE1 ?_
     unfold a80 bi0; rw [g1,decide_eq_true g2,hT,hL,if_pos h1]; rfl
end Go.Lw
namespace Go.Lw
theorem ani {l : Li} {xs : List Tn} (h : a80 l xs = true) : liB l = true /\ xs.length <= 20 /\ xs.all tnB = true := by
 unfold a80 at h
 simp only [and_eq_true,decide_eq_true_eq] at h
 exact ⟨h.1.1,h.1.2,h.2.1⟩
theorem awm {x : Tn} (h : tnB x = true) (ho : x.t.wok) : x.t.ok /\ Qb 1000 x.t.q := by
 unfold tnB at h
 rw [decide_eq_true_eq] at h
 have hx := ho.ok h.1 h.2 (by omega)
 exact ⟨hx,(Rt.qb hx (k := 1) (by omega) h.1 h.2).mono (by omega)⟩
end Go.Lw
namespace Go.Lw
variable {P : Program}
mutual
def AV.pm (σ : Nat -> Nat) : AV -> AV
  | .ms k sz off len => .ms (σ k) sz off len
  | .ptr k off => .ptr (σ k) off
  | .eptr k sz i off => .eptr (σ k) sz i off
  | .yl k => .yl (σ k)
  | .agg cs => .agg (AV.pms σ cs)
  | .tup cs => .tup (AV.pms σ cs)
  | .fn f cs => .fn f (AV.pms σ cs)
  | .opt b x => .opt b (AV.pm σ x)
  | .v x => .v x
  | .lst sz l => .lst sz l
  | .iptr l => .iptr l
  | .cl f cs ds => .cl f cs ds
def AV.pms (σ : Nat -> Nat) : List AV -> List AV
  | [] => []
  | x :: l => AV.pm σ x :: AV.pms σ l
end
theorem AV.pms_eq (σ : Nat -> Nat) : ∀ l, AV.pms σ l = l.map (AV.pm σ)
 | [] => rfl
 | x :: l => by simp only [AV.pms,map_cons,AV.pms_eq σ l]
theorem AV.pm_one (σ : Nat -> Nat) (x : AV) (h : x.one = true) : (x.pm σ).one = true := by
 cases x <;> simp only [AV.pm] <;> exact h
mutual
theorem AV.pm_pm {σ : Nat -> Nat} (hσ : ∀ k, σ (σ k) = k) : ∀ x : AV, (x.pm σ).pm σ = x
 | .ms k sz off len => by simp only [AV.pm,hσ]
 | .ptr k off => by simp only [AV.pm,hσ]
 | .eptr k sz i off => by simp only [AV.pm,hσ]
 | .yl k => by simp only [AV.pm,hσ]
 | .agg cs => by simp only [AV.pm]; rw [AV.pms_pms hσ cs]
 | .tup cs => by simp only [AV.pm]; rw [AV.pms_pms hσ cs]
 | .fn f cs => by simp only [AV.pm]; rw [AV.pms_pms hσ cs]
 | .opt b x => by simp only [AV.pm]; rw [AV.pm_pm hσ x]
 | .v x => by simp only [AV.pm]
 | .lst sz l => by simp only [AV.pm]
 | .iptr l => by simp only [AV.pm]
 | .cl f cs ds => by simp only [AV.pm]
theorem AV.pms_pms {σ : Nat -> Nat} (hσ : ∀ k, σ (σ k) = k) : ∀ l : List AV, AV.pms σ (AV.pms σ l) = l
 | [] => by simp only [AV.pms]
 | x :: l => by simp only [AV.pms]; rw [AV.pm_pm hσ x,AV.pms_pms hσ l]
end
theorem axt {g : Nat -> Array Value -> Prop} {S : Nat -> Nat -> Prop} {σ : Nat -> Nat} (hσ : ∀ k, σ (σ k) = k) {m : Nat -> Option Nat} {v : Value} {x : AV} (h : Rep g S m v x) : Rep g S (fun k => m (σ k)) v (x.pm σ) := by
 induction h with
 | v x => exact .v x
 | lst0 a cap sz' => exact .lst0 a cap sz'
 | lst u hb hc hl hs ho hu hr _ => exact .lst u hb hc hl hs ho hu hr
 | iptr u hb ho hu hr _ => exact .iptr u hb ho hu hr
 | cl a b c d _ _ => exact .cl a b c d
 | ptr hm => exact .ptr (by simp only [hσ]; exact hm)
 | eptr hm => exact .eptr (by simp only [hσ]; exact hm)
 | yl hm => exact .yl (by simp only [hσ]; exact hm)
 | ms0 a k sz off => exact .ms0 _ _ _ _
 | ms hm hc hS => exact .ms (by simp only [hσ]; exact hm) hc hS
 | opt h h' ih => exact .opt ih h'
 | agg hn h1 hr ih =>
  simp only [AV.pm,AV.pms_eq]
  refine .agg (by simpa using hn) ?_ ?_
  ·intro j c hc
   simp only [getElem?_map,map_eq_some_iff] at hc
   obtain ⟨y,hy,rfl⟩ := hc
   exact AV.pm_one _ _ (h1 j y hy)
  ·intro j u c hu hc
   simp only [getElem?_map,map_eq_some_iff] at hc
   obtain ⟨y,hy,rfl⟩ := hc
   exact ih j u y hu hy
 | tup hn hr ih =>
  simp only [AV.pm,AV.pms_eq]
  refine .tup (by simpa using hn) ?_
  intro j u c hu hc
  simp only [getElem?_map,map_eq_some_iff] at hc
  obtain ⟨y,hy,rfl⟩ := hc
  exact ih j u y hu hy
 | fn hn hr ih =>
  simp only [AV.pm,AV.pms_eq]
  refine .fn (by simpa using hn) ?_
  intro j u c hu hc
  simp only [getElem?_map,map_eq_some_iff] at hc
  obtain ⟨y,hy,rfl⟩ := hc
  exact ih j u y hu hy
theorem bec {g : Nat -> Array Value -> Prop} {S : Nat -> Nat -> Prop} {σ : Nat -> Nat} (hσ : ∀ k, σ (σ k) = k) {m : Nat -> Option Nat} {w : World} {o : Option Nat} {x : Blk} (h : BlkRep g S m w o x) :
  BlkRep g S (fun k => m (σ k)) w o (x.map (AV.pm σ)) := by
 cases x with
 | row sz es => exact h.mono (fun _ _ h => h) (fun _ _ h => h) (fun _ _ hk => hk.elim) rfl (fun _ _ => rfl)
 | vec vs => exact h.mono (fun _ _ h => h) (fun _ _ h => h) (fun _ _ hk => hk.elim) rfl (fun _ _ => rfl)
 | loop => exact h.mapLoop _ (fun _ _ _ _ h => axt hσ h)
 | box cs =>
  cases h with
  | box hw hn h1 hrr =>
   refine .box hw (by simpa using hn) ?_ ?_
   ·intro j x hx
    simp only [getElem?_map,map_eq_some_iff] at hx
    obtain ⟨y,hy,rfl⟩ := hx
    exact AV.pm_one _ _ (h1 j y hy)
   ·intro j u x hu hx
    simp only [getElem?_map,map_eq_some_iff] at hx
    obtain ⟨y,hy,rfl⟩ := hx
    exact axt hσ (hrr j u y hu hy)
theorem a9o {σ : Nat -> Nat} (hσ : ∀ k, σ (σ k) = k) : ∀ sl : abo, ajb (AV.pm σ) (ajb (AV.pm σ) sl) = sl
 | [] => rfl
 | (t,none) :: l => by simp only [ajb,a9o hσ l]
 | (t,some x) :: l => by simp only [ajb,a9o hσ l,AV.pm_pm hσ x]
theorem Blk.pm_pm {σ : Nat -> Nat} (hσ : ∀ k, σ (σ k) = k) (x : Blk) : (x.map (AV.pm σ)).map (AV.pm σ) = x := by
 cases x with
 | row sz es => rfl
 | vec vs => rfl
 | loop d st pe sl => simp only [Blk.map,a9o hσ]
 | box cs =>
  simp only [Blk.map]
  rw [<- AV.pms_eq,<- AV.pms_eq,AV.pms_pms hσ]
def pmH (σ : Nat -> Nat) : Hp -> Hp
  | [] => []
  | (k,x) :: l => (σ k,match x with | some b => some (b.map (AV.pm σ)) | none => none) :: pmH σ l
theorem aiu {σ : Nat -> Nat} (hσ : ∀ k, σ (σ k) = k) : ∀ (H : Hp) (k : Nat), lk (pmH σ H) k = (lk H (σ k)).map (Blk.map (AV.pm σ))
 | [],k => rfl
 | (k', x) :: l, k => by
  simp only [pmH,aac,aiu hσ l k]
  by_cases h : k = σ k'
  ·rw [if_pos h, if_pos (by rw [h, hσ])]
   cases x <;> rfl
  ·rw [if_neg h,if_neg (fun e => h (by rw [<- e,hσ]))]
theorem a1m {σ : Nat -> Nat} (hσ : ∀ k, σ (σ k) = k) (H : Hp) (m : Nat -> Option Nat) : Own (pmH σ H) (fun k => m (σ k)) = Own H m := by
 funext b
 apply propext
 constructor
 ·rintro ⟨k, z, hz, hb⟩
  rw [aiu hσ,map_eq_some_iff] at hz
  obtain ⟨y,hy,rfl⟩ := hz
  exact ⟨σ k,y,hy,hb⟩
 ·rintro ⟨k, y, hy, hb⟩
  exact ⟨σ k,y.map (AV.pm σ),by rw [aiu hσ,hσ,hy]; rfl,by simp only [hσ]; exact hb⟩
theorem a4h {σ : Nat -> Nat} (hσ : ∀ k, σ (σ k) = k) {ext : Nat -> Prop} {H : Hp} {m : Nat -> Option Nat} {w : World} (h : HeapRel ext H m w) : HeapRel ext (pmH σ H) (fun k => m (σ k)) w := by
 have e : Im ext (pmH σ H) (fun k => m (σ k)) w = Im ext H m w:=by funext b cs; simp only [Im,a1m hσ]
 refine ⟨?_,?_,?_⟩
 ·intro k z hz
  rw [aiu hσ,map_eq_some_iff] at hz
  obtain ⟨y,hy,rfl⟩ := hz
  rw [e]
  exact bec hσ (h.blk _ y hy)
 ·intro k k' z z' b hz hz' hb hb'
  rw [aiu hσ,map_eq_some_iff] at hz hz'
  obtain ⟨y,hy,_⟩ := hz
  obtain ⟨y',hy',_⟩ := hz'
  have := h.inj _ _ y y' b hy hy' hb hb'
  rw [<- hσ k,this,hσ]
 ·intro k z b hz hb
  rw [aiu hσ,map_eq_some_iff] at hz
  obtain ⟨y,hy,_⟩ := hz
  exact h.sep _ y b hy hb
theorem Con.pm {σ : Nat -> Nat} (hσ : ∀ k, σ (σ k) = k) {f : FuncId} {args : List AV} {H H' : Hp} {r : AV} (h : Con P f args H r H') : Con P f (args.map (AV.pm σ)) (pmH σ H) (r.pm σ) (pmH σ H') := by
 refine ⟨h.ok,?_⟩
 intro ext m w vs hext hheap hvs hrep
 have hlk : ∀ k, lk (pmH σ (pmH σ H)) k = lk H k := by
  intro k
  rw [aiu hσ,aiu hσ,hσ]
  cases lk H k with
  | none => rfl
  | some y => simp only [Option.map_some,Blk.pm_pm hσ]
 have hh := HeapRel.congr hlk (a4h hσ hheap)
 have em : (fun k => (fun k => m (σ k)) (σ k)) = m:=by funext k; simp only [hσ]
 have eo : Own (pmH σ H) m = Own H (fun k => m (σ k)) := by
  have := a1m hσ H (fun k => m (σ k))
  rw [em] at this; exact this
 have ei : Im ext (pmH σ H) m w = Im ext H (fun k => m (σ k)) w:=by funext b cs; simp only [Im,eo]
 refine Calls.mono (h.ret ext (fun k => m (σ k)) w vs hext hh (by simpa using hvs) (fun j v x hv hx => ?_)) ?_
 ·have h1 := hrep j v (x.pm σ) hv (by simp [hx])
  have h2 := axt hσ h1
  rw [AV.pm_pm hσ,ei] at h2
  exact h2
 ·rintro e w' ⟨v, m', rfl, hf, hh', hn, hk, hrr⟩
  refine ⟨v,fun k => m' (σ k),rfl,eo ▸ hf,a4h hσ hh',?_,?_,?_⟩
  ·intro k x b hx hb
   rw [aiu hσ,map_eq_some_iff] at hx
   obtain ⟨y,hy,_⟩ := hx
   rw [eo]
   exact hn _ y b hy hb
  ·intro k x y hx hy
   rw [aiu hσ,map_eq_some_iff] at hx hy
   obtain ⟨x',hx',_⟩ := hx
   obtain ⟨y',hy',_⟩ := hy
   have := hk _ x' y' hx' hy'
   simpa only [hσ] using this
  ·have e2 : Im ext (pmH σ H') (fun k => m' (σ k)) w' = Im ext H' m' w' := by funext b cs; simp only [Im, a1m hσ]
   rw [e2]
   exact axt hσ hrr
end Go.Lw
namespace Go.Lw
variable {P : Program} {N : Nat}
def rdC (s : AS) : Operand -> Option AV
  | .tmp t => match s.get t with
    | some x => match x with
      | .opt _ _ => none
      | x => some x
    | none => none
  | .const c => some (.v c)
  | .func f => some (.v (.func (.func f) #[] #[]))
  | .global _ => none
theorem abf {s : AS} {o : Operand} {x : AV} (h : rdC s o = some x) : Ev s o x := by
 cases o with
 | tmp t =>
  simp only [rdC] at h
  split at h
  ·rename_i y hy
   split at h
   ·cases h
   ·cases h; exact .tmp hy
  ·cases h
 | const c => cases h; exact .const c
 | func f => cases h; exact .func f
 | global n => cases h
def bc1 (s : AS) : List Operand -> Option (List AV)
  | [] => some []
  | o :: os => match rdC s o with
    | some x => match bc1 s os with
      | some xs => some (x :: xs)
      | none => none
    | none => none
theorem ak2 {s : AS} : ∀ {os : List Operand} {xs : List AV}, bc1 s os = some xs -> EvL s os xs
 | [],xs,h => by cases h; exact .nil
 | o :: os, xs, h => by
  unfold bc1 at h
  split at h
  ·rename_i x h1
   split at h
   ·rename_i ys h2; cases h; exact .cons (abf h1) (ak2 h2)
   ·cases h
  ·cases h
def wN {α : Type} (n : Nat) (f : Nat -> α) : α := match n with
  | 0 => f 0
  | m + 1 => f (m + 1)
theorem avv {α : Type} (n : Nat) (f : Nat -> α) : wN n f = f n:=by cases n <;> rfl
def wI {α : Type} (z : Int) (f : Int -> α) : α := match z with
  | .ofNat n => match n with
    | 0 => f 0
    | m + 1 => f (Int.ofNat (m + 1))
  | .negSucc n => f (.negSucc n)
theorem ap3 {α : Type} (z : Int) (f : Int -> α) : wI z f = f z := by
 cases z with
 | ofNat n => cases n <;> rfl
 | negSucc n => rfl
structure V1 where
  x : AV
  rt : List Nat
  rd : List Nat
def a76 : Value -> Bool
  | .nilIface => true
  | .iface _ _ => true
  | _ => false
theorem at2 {v : Value} (h : a76 v = true) : bb6 v := by
 cases v <;> first | exact .inl rfl | exact .inr ⟨_,_,rfl⟩ | cases h
def bcv : BinOp -> Bool
  | .and | .or | .xor | .andNot => true
  | _ => false
theorem a5r : ∀ {op : BinOp},bcv op = true -> (match op with | .and | .or | .xor | .andNot => true | _ => false) = true:=by intro op; cases op <;> intro h <;> first | rfl | cases h
def bc4 (op : BinOp) (x y : Operand) (k k' : IntKind) (a b : Int) : Option V1 := match op with
  | .add | .sub | .mul => match Nat.beq (ikn k) (ikn k') with
    | true => wI (k.wrap (adm op a b)) fun z => some ⟨.v (.int k z),aaj x ++ aaj y,[]⟩
    | false => none
  | .quo => match Nat.beq (ikn k) (ikn k') with
    | true => match b with
      | .ofNat 0 => none
      | b => wI (k.wrap (a.tdiv b)) fun z => some ⟨.v (.int k z),aaj x ++ aaj y,[]⟩
    | false => none
  | .rem => match Nat.beq (ikn k) (ikn k') with
    | true => match b with
      | .ofNat 0 => none
      | b => wI (a.tmod b) fun z => some ⟨.v (.int k z),aaj x ++ aaj y,[]⟩
    | false => none
  | .shl => match b with
    | .ofNat n => wI (k.wrap (a * 2 ^ (min n k.bits))) fun z => some ⟨.v (.int k z),aaj x ++ aaj y,[]⟩
    | .negSucc _ => none
  | .shr => match b with
    | .ofNat n => wI (a.fdiv (2 ^ (min n k.bits))) fun z => some ⟨.v (.int k z),aaj x ++ aaj y,[]⟩
    | .negSucc _ => none
  | .eql | .neq | .lss | .leq | .gtr | .geq => match Nat.beq (ikn k) (ikn k') with
    | true => match aaa op a b with
      | true => some ⟨.v (.bool true),aaj x ++ aaj y,[]⟩
      | false => some ⟨.v (.bool false),aaj x ++ aaj y,[]⟩
    | false => none
  | op => match bcv op && Nat.beq (ikn k) (ikn k') with
    | true => wI (aqy op k a b) fun z => some ⟨.v (.int k z),aaj x ++ aaj y,[]⟩
    | false => none
section
variable {s : AS} {R : Array Oper} {d : Nat} {t T : TypeId} {pos : String} {after : Array Edge}
theorem a9y {op : BinOp} {x y : Operand} {k k' : IntKind} {a b : Int} {S : TypeId} {r : V1} (hx : Ev s x (.v (.int k a))) (hy : Ev s y (.v (.int k' b))) (h : bc4 op x y k k' a b = some r) (hN : Nat.blt d N = true) :
  Step P N R s ⟨some d,.binOp op S x y T,t,pos,after,none⟩ ⟨some r.x,[],r.rt,r.rd⟩ := by
 have hc : ∀ (op : BinOp), a7n op = true -> (match Nat.beq (ikn k) (ikn k') with
  | true => match aaa op a b with
   | true => some (⟨.v (.bool true),aaj x ++ aaj y,[]⟩ : V1)
   | false => some ⟨.v (.bool false),aaj x ++ aaj y,[]⟩
  | false => none) = some r -> Step P N R s ⟨some d,.binOp op S x y T,t,pos,after,none⟩ ⟨some r.x,[],r.rt,r.rd⟩ := by
  intro op hop h'
  split at h'
  ·rename_i hk
   cases ag3 hk
   have := bf8 (P := P) (R := R) (op := op) (S := S) (T := T) (t := t) (pos := pos) (after := after) hx hy (by cases op <;> simp_all [a7n]) hN
   split at h'
   ·rename_i hb; cases h'; rw [hb] at this; exact this
   ·rename_i hb; cases h'; rw [hb] at this; exact this
  ·cases h'
 have ha : ∀ (op : BinOp), bhx op = true -> (match Nat.beq (ikn k) (ikn k') with
  | true => wI (k.wrap (adm op a b)) fun z => some (⟨.v (.int k z),aaj x ++ aaj y,[]⟩ : V1)
  | false => none) = some r -> Step P N R s ⟨some d,.binOp op S x y T,t,pos,after,none⟩ ⟨some r.x,[],r.rt,r.rd⟩ := by
  intro op hop h'
  split at h'
  ·rename_i hk
   cases ag3 hk
   rw [ap3] at h'
   cases h'
   exact a42 hx hy (a4c hop) hN
  ·cases h'
 have hb : ∀ (op : BinOp), (match bcv op && Nat.beq (ikn k) (ikn k') with
  | true => wI (aqy op k a b) fun z => some (⟨.v (.int k z),aaj x ++ aaj y,[]⟩ : V1)
  | false => none) = some r -> Step P N R s ⟨some d,.binOp op S x y T,t,pos,after,none⟩ ⟨some r.x,[],r.rt,r.rd⟩ := by
  intro op h'
  split at h'
  ·rename_i hk
   simp only [and_eq_true] at hk
   cases ag3 hk.2
   rw [ap3] at h'
   cases h'
   exact a8x hx hy (a5r hk.1) hN
  ·cases h'
 cases op with
 | add => exact ha _ rfl h
 | sub => exact ha _ rfl h
 | mul => exact ha _ rfl h
 | quo =>
  simp only [bc4] at h
  split at h
  ·rename_i hk
   cases ag3 hk
   split at h
   ·cases h
   ·rename_i hb0
    rw [ap3] at h; cases h
    exact bdi hx hy (fun e => hb0 (by rw [e]; rfl)) hN
  ·cases h
 | rem =>
  simp only [bc4] at h
  split at h
  ·rename_i hk
   cases ag3 hk
   split at h
   ·cases h
   ·rename_i hb0
    rw [ap3] at h; cases h
    exact bfc hx hy (fun e => hb0 (by rw [e]; rfl)) hN
  ·cases h
 | shl =>
  simp only [bc4] at h
  split at h
  ·rename_i n
   rw [ap3] at h
   obtain rfl := Option.some.inj h
   have := bdd (P := P) (R := R) (S := S) (T := T) (t := t) (pos := pos) (after := after) hx hy (Int.natCast_nonneg n) hN
   simp only [Int.ofNat_eq_natCast,toNat_natCast] at this
   exact this
  ·cases h
 | shr =>
  simp only [bc4] at h
  split at h
  ·rename_i n
   rw [ap3] at h
   obtain rfl := Option.some.inj h
   have := bef (P := P) (R := R) (S := S) (T := T) (t := t) (pos := pos) (after := after) hx hy (Int.natCast_nonneg n) hN
   simp only [Int.ofNat_eq_natCast,toNat_natCast] at this
   exact this
  ·cases h
 | eql => exact hc _ rfl h
 | neq => exact hc _ rfl h
 | lss => exact hc _ rfl h
 | leq => exact hc _ rfl h
 | gtr => exact hc _ rfl h
 | geq => exact hc _ rfl h
 | _ => exact hb _ h
end
def neB (op : BinOp) (b : Bool) : Bool := match op with
  | .eql => b
  | _ => !b
def bhf : AV -> Option Bool
  | .v (.slice none 0 0) => some true
  | .lst _ (_ :: _) => some false
  | .ms _ _ _ (_ + 1) => some false
  | _ => none
theorem a0y {S : TypeId} {w : World} {E : TypeId} (h3 : (underlying S).run P w = .ok (.slice E) w) {a : Option Addr} {n c : Nat} :
  (Op.equal S (.slice a n c) (.slice none 0 0)).run P w = .ok a.isNone w := by
 show (Op.equalIn (9999 + 1) S _ _).run P w = _
 rw [Op.equalIn]
 cases a <;> simp [h3]
theorem bal {s : AS} {R : Array Oper} {d : Nat} {x : Operand} {xv : AV} {b : Bool} {op : BinOp} {S T t E : TypeId} {ti : TI} {pos : String} {after : Array Edge} (hop : op = .eql \/ op = .neq)
  (hx : Ev s x xv) (hv : bhf xv = some b) (hS : aaf P S = some ti) (hk : ti.k = .slice E) (hN : Nat.blt d N = true) :
  Step P N R s ⟨some d,.binOp op S x (.const (.slice none 0 0)) T,t,pos,after,none⟩ ⟨some (.v (.bool (neB op b))),[],aaj x,[]⟩ :=
 aaw rfl rfl hN fun s' hag C m a w hr => ⟨.bool (neB op b), by
  have h := (hx.agree hag (fun _ h => h)).rep hr
  obtain ⟨d2,h3,h4,-,-⟩ := abn hS w
  obtain rfl := acb (h4.trans hk)
  have h2 : a.eval (.const (.slice none 0 0)) = .slice none 0 0 := rfl
  obtain ⟨ad, n, c, he, hb⟩ : ∃ ad n c, a.eval x = .slice ad n c /\ ad.isNone = b := by
   generalize a.eval x = u at h
   unfold bhf at hv
   split at hv
   ·cases hv; cases h; exact ⟨_,_,_,rfl,rfl⟩
   ·cases hv
    cases h with
    | lst u hb hc hl hs h1 hu hr => exact ⟨_,_,_,rfl,rfl⟩
   ·cases hv
    cases h with
    | ms hm hc hS => exact ⟨_,_,_,rfl,rfl⟩
   ·cases hv
  have h5 := a0y (P := P) (a := ad) (n := n) (c := c) h3
  rcases hop with rfl | rfl <;> simp [execOp,he,h2,eqGuard,binOp,h5,hb,neB],.v _⟩
theorem ayg {s : AS} {R : Array Oper} {d : Nat} {x : Operand} {lo hi : Option Operand} {T E t : TypeId} {ti te : TI} {pos : String} {after : Array Edge}
  (hx : Ev s x (.v (.slice none 0 0))) (hl : EvI s lo 0 0) (hh : EvI s hi 0 0) (hT : aaf P T = some ti) (hk : ti.k = .slice E) (hE : aaf P E = some te) (hN : Nat.blt d N = true) :
  Step P N R s ⟨some d,.slice T x lo hi none,t,pos,after,none⟩ ⟨some (.v (.slice none 0 0)),[],aaj x ++ (rtO lo ++ rtO hi),[]⟩ :=
 aaw rfl rfl hN fun s' hag C m a w hr => by
  have hxv := alu hr (hx.agree hag (fun _ h => List.mem_append.2 (.inl h)))
  have hl' := hl.agree hag (fun _ h => List.mem_append.2 (.inr (List.mem_append.2 (.inl h))))
  have hh' := hh.agree hag (fun _ h => List.mem_append.2 (.inr (List.mem_append.2 (.inr h))))
  obtain ⟨d2,hu,h3,-,-⟩ := abn hT w
  obtain rfl := acb (h3.trans hk)
  have := ac6 (P := P) hr (cap := 0) true hl' hh' (le_refl _) (le_refl _)
  exact ⟨.slice none 0 0,by simp [execOp,hxv,Instr.sliceAt,hu,Instr.slice,this,abe hE],.v _⟩
theorem a16 {s : AS} {R : Array Oper} {d : Nat} {x : Operand} {k1 k2 : IntKind} {sz : Nat} {es : List AV} {T E t : TypeId} {ti te : TI} {pos : String} {after : Array Edge}
  (hx : Ev s x (.lst sz es)) (hT : aaf P T = some ti) (hk : ti.k = .slice E) (hE : aaf P E = some te) (hsz : te.size = sz) (hN : Nat.blt d N = true) :
  Step P N R s ⟨some d,.slice T x none (some (.const (.int k1 0))) (some (.const (.int k2 0))),t,pos,after,none⟩ ⟨some (.ms d sz 0 0),[(d,some (.row sz []))],aaj x,[]⟩ := by
 refine arl rfl ?_
 intro s' hag hnew C m a w next hC hr hnext
 have hfr : s'.Fresh d := by
  rcases hnew d (by simp) with h | h
  ·cases h
  ·exact h
 have hxr := (hx.agree hag (fun _ h => h)).rep hr
 obtain ⟨d2,hu,h3,-,-⟩ := abn hT w
 obtain rfl := acb (h3.trans hk)
 obtain ⟨ad, n, c, he⟩ : ∃ ad n c, a.eval x = .slice ad n c := by
  generalize a.eval x = u at hxr
  cases hxr with
  | lst0 a cap => exact ⟨_,_,_,rfl⟩
  | lst u hb hc hl hs h1 hu hr => exact ⟨_,_,_,rfl⟩
 have e1 : a.eval (.const (.int k1 0)) = .int k1 0 := rfl
 have e2 : a.eval (.const (.int k2 0)) = .int k2 0 := rfl
 have hex : (execOp a.eval ⟨some d, .slice T x none (some (.const (.int k1 0))) (some (.const (.int k2 0))), t, pos, after, none⟩).run P w = .ok (.value (.slice ad 0 0)) w := by
  simp [execOp,he,e1,e2,Instr.sliceAt,hu,Instr.slice,Instr.sliceBounds,Instr.sliceBound,asIntOf,abe hE]
 rw [hex]
 rw [Nat.blt_eq] at hN
 simp only [Oper.upon,Act.put]
 obtain ⟨m2,h1⟩ : ∃ m2,RelM C ⟨s'.sl,(d,some (.row sz [])) :: s'.hp⟩ m2 a w := ⟨_,hr.virt sz hfr⟩
 refine hnext m2 _ _ ?_
 have := h1.put d (.slice ad 0 0) (some (.ms d sz 0 0)) (fun z hz => by
  cases hz
  exact ⟨by have := hr.nt; omega,.ms0 _ _ _ _⟩)
 simpa [AS.app] using this
variable [Inhabited (Tys P)]
def bje : BinOp -> Bool
  | .eql | .neq => true
  | _ => false
def bgf : List UInt8 -> List UInt8 -> Bool
  | [], y => match y with
    | [] => true
    | _ => false
  | x :: l, y => match y with
    | x' :: l' => match Nat.beq x.toNat x'.toNat with
      | true => bgf l l'
      | false => false
    | [] => false
theorem aus : ∀ {a b : List UInt8}, bgf a b = (a == b)
 | [],[] => rfl
 | [],_ :: _ => rfl
 | _ :: _,[] => rfl
 | x :: l, x' :: l' => by
  show (match Nat.beq x.toNat x'.toNat with | true => bgf l l' | false => false) = _
  cases h : Nat.beq x.toNat x'.toNat with
  | true =>
   have : x = x' := UInt8.toNat_inj.1 (eq_of_beq_eq_true h)
   subst this
   simp only [aus (a := l)]
   simp
  | false =>
   have : x ≠ x' := fun e => Nat.ne_of_beq_eq_false h (by rw [e])
   simp [this]
def ban (a b : ByteArray) : Bool := bgf a.data.toList b.data.toList
theorem a1f (a b : ByteArray) : (a.toList == b.toList) = ban a b := by
 unfold ban; rw [aus,ByteArray.toList_eq,ByteArray.toList_eq]
def bg9 (P : Program) [Inhabited (Tys P)] (op : BinOp) (S : TypeId) (x y : Operand) (vx vy : Value) : Option V1 := match vx with
  | .int k a => match vy with
    | .int k' b => bc4 op x y k k' a b
    | _ => none
  | vx => match vy with
    | .nilIface => match y with
      | .const _ => match a76 vx with
        | true => match ahe P S with
          | some ti => match ti.k with
            | .iface _ => match op with
              | .eql => some ⟨.v (.bool (ag8 vx)),aaj x ++ [],[]⟩
              | .neq => some ⟨.v (.bool !(ag8 vx)),aaj x ++ [],[]⟩
              | _ => none
            | _ => none
          | none => none
        | false => none
      | _ => none
    | .string b => match vx with
      | .string a => match op with
        | .eql => match ban a b with
          | true => some ⟨.v (.bool true),aaj x ++ aaj y,[]⟩
          | false => some ⟨.v (.bool false),aaj x ++ aaj y,[]⟩
        | .neq => match ban a b with
          | true => some ⟨.v (.bool false),aaj x ++ aaj y,[]⟩
          | false => some ⟨.v (.bool true),aaj x ++ aaj y,[]⟩
        | _ => none
      | _ => none
    | vy => match bc2 P op S x y [] vx vy with
      | some r => match r.ob with
        | [] => some ⟨r.x,r.rt,r.rd⟩
        | _ => none
      | none => none
def bb3 (P : Program) [Inhabited (Tys P)] (T sz : Nat) : Bool := match ahe P T with
  | some ti => match ti.k with
    | .slice E => match ahe P E with
      | some te => Nat.beq te.size sz
      | none => false
    | _ => false
  | none => false
theorem anz {T sz : Nat} (h : bb3 P T sz = true) : ∃ ti E te, aaf P T = some ti /\ ti.k = .slice E /\ aaf P E = some te /\ te.size = sz := by
 unfold bb3 at h
 split at h
 ·rename_i ti hti
  split at h
  ·rename_i E hk
   split at h
   ·rename_i te hte
    exact ⟨ti,E,te,aav hti,hk,aav hte,eq_of_beq_eq_true h⟩
   ·cases h
  ·cases h
 ·cases h
def bdC (s : AS) (o : Option Operand) (d : Nat) : Option Nat := match o with
  | none => some d
  | some x => match rdC s x with
    | some (.v (.int _ (.ofNat n))) => some n
    | _ => none
theorem api {s : AS} {o : Option Operand} {d n : Nat} (h : bdC s o d = some n) : EvI s o d n := by
 cases o with
 | none => cases h; exact .none d
 | some x =>
  simp only [bdC] at h
  split at h
  ·rename_i hx
   cases h
   exact .some (i := Int.ofNat n) d (abf hx) (Int.natCast_nonneg _)
  ·cases h
def ldE (ti : TI) (l : List AV) : Option AV := match ti.ag with
  | true => match frc (l.take ti.size) with
    | some r => some (.agg r)
    | none => none
  | false => match Nat.beq ti.size 1 with
    | true => match l with
      | x :: _ => some x
      | [] => none
    | false => none
theorem be2 {ti : TI} {l : List AV} {x : AV} (h : ldE ti l = some x) : (ti.ag || Nat.beq ti.size 1) = true /\ x = mkT ti.ag (l.take ti.size) := by
 unfold ldE at h
 split at h
 ·rename_i ha
  split at h
  ·rename_i r hr; cases h; rw [ha,afs hr]; exact ⟨rfl,rfl⟩
  ·cases h
 ·rename_i ha
  split at h
  ·rename_i h1
   split at h
   ·cases h; rw [ha,eq_of_beq_eq_true h1]; exact ⟨rfl,rfl⟩
   ·cases h
  ·cases h
def bi1 (P : Program) (op : BinOp) (S : TypeId) (x y : Operand) (a b c e : Int) : Option V1 := match op with
  | .eql => match bgq P S with
    | true => match a == c && b == e with
      | true => some ⟨.v (.bool true),aaj x ++ aaj y,[]⟩
      | false => some ⟨.v (.bool false),aaj x ++ aaj y,[]⟩
    | false => none
  | _ => none
def opV (P : Program) [Inhabited (Tys P)] (s : AS) (op : Op) : Option V1 := match op with
  | .pick c x y => match rdC s c with
    | some (.v (.bool b)) => match b with
      | true => match rdC s x with
        | some (.v (.bool z)) => some ⟨.v (.bool z),aaj c ++ (aaj x ++ aaj y),[]⟩
        | _ => none
      | false => match rdC s y with
        | some (.v (.bool z)) => some ⟨.v (.bool z),aaj c ++ (aaj x ++ aaj y),[]⟩
        | _ => none
    | _ => none
  | .binOp op S x (.const (.slice none 0 0)) _ => match bje op with
    | true => match rdC s x with
      | some xv => match bhf xv with
        | some b => match ahe P S with
          | some ti => match ti.k with
            | .slice _ => match op with
              | .eql => some ⟨.v (.bool b),aaj x,[]⟩
              | _ => match b with
                | true => some ⟨.v (.bool false),aaj x,[]⟩
                | false => some ⟨.v (.bool true),aaj x,[]⟩
            | _ => none
          | none => none
        | none => none
      | none => none
    | false => none
  | .binOp op S x y _ => match rdC s x with
    | some (.v vx) => match rdC s y with
      | some (.v vy) => bg9 P op S x y vx vy
      | _ => none
    | some (.agg [.v (.int .i64 a), .v (.int .i64 b)]) => match rdC s y with
      | some (.agg [.v (.int .i64 c),.v (.int .i64 e)]) => bi1 P op S x y a b c e
      | _ => none
    | _ => none
  | .unOp .neg _ x => match rdC s x with
    | some (.v (.int k n)) => wI (k.wrap (0 - n)) fun z => some ⟨.v (.int k z),aaj x,[]⟩
    | _ => none
  | .convert S T x => match rdC s x with
    | some (.v (.int _ n)) => match ahe P S with
      | some _ => match ahe P T with
        | some ti => match ti.k with
          | .int k' => wI (k'.wrap n) fun z => some ⟨.v (.int k' z),aaj x,[]⟩
          | _ => none
        | none => none
      | none => none
    | _ => none
  | .indexAddr T x ix => match rdC s ix with
    | some (.v (.int _ (.ofNat i))) => match rdC s x with
      | some (.lst sz es) => match bb3 P T sz with
        | true => match es[i]? with
          | some e => some ⟨.iptr e.cells,aaj x ++ aaj ix,[]⟩
          | none => none
        | false => none
      | some (.ms k sz off len) => match bb3 P T sz && Nat.blt i len with
        | true => wN (off + i) fun n => some ⟨.eptr k sz n 0,aaj x ++ aaj ix,[]⟩
        | false => none
      | _ => none
    | _ => none
  | .load T x => match rdC s x with
    | some (.eptr k sz i off) => match s.blk k with
      | some (.row sz' es) => match Nat.beq sz sz' with
        | true => match es[i]? with
          | some e => match ahe P T with
            | some ti => match Nat.ble (off + ti.size) e.cells.length with
              | true => match ldE ti (e.cells.drop off) with
                | some v => some ⟨v,aaj x,[k]⟩
                | none => none
              | false => none
            | none => none
          | none => none
        | false => none
      | _ => none
    | some y => match ahe P T with
      | some ti => match azk P s ti x [] y with
        | some r => some ⟨r.x,r.rt,r.rd⟩
        | none => none
      | none => none
    | none => none
  | .index T x ix => match rdC s ix with
    | some (.v (.int _ (.ofNat i))) => match rdC s x with
      | some (.v (.string b)) => match ahe P T with
        | some ti => match ti.k with
          | .string => match Nat.blt i b.size with
            | true => wN (b.data.getD i 0).toNat fun n => some ⟨.v (.int .u8 (Int.ofNat n)),aaj x ++ aaj ix,[]⟩
            | false => none
          | _ => none
        | none => none
      | _ => none
    | _ => none
  | .slice T x lo hi none => match rdC s x with
    | some (.lst sz es) => match bdC s lo 0 with
      | some l => match bdC s hi es.length with
        | some h => match bb3 P T sz && Nat.ble l h && Nat.ble h es.length with
          | true => match frc ((es.drop l).take (h - l)) with
            | some r => some ⟨.lst sz r,aaj x ++ (rtO lo ++ rtO hi),[]⟩
            | none => none
          | false => none
        | none => none
      | none => none
    | some (.v (.slice none 0 0)) => match bdC s lo 0 with
      | some 0 => match bdC s hi 0 with
        | some 0 => match ahe P T with
          | some ti => match ti.k with
            | .slice E => match ahe P E with
              | some _ => some ⟨.v (.slice none 0 0),aaj x ++ (rtO lo ++ rtO hi),[]⟩
              | none => none
            | _ => none
          | none => none
        | _ => none
      | _ => none
    | some (.ms k sz off len) => match bdC s lo 0 with
      | some l => match bdC s hi len with
        | some h => match bb3 P T sz && Nat.ble l h && Nat.ble h len with
          | true => wN (off + l) fun a => wN (h - l) fun b => some ⟨.ms k sz a b,aaj x ++ (rtO lo ++ rtO hi),[]⟩
          | false => none
        | none => none
      | none => none
    | _ => none
  | .call ⟨.builtin .len, args, ts⟩ => match args.toList with
    | [x] => match ts.toList with
      | [T] => match rdC s x with
        | some (.lst _ es) => match ahe P T with
          | some ti => match ti.k with
            | .slice _ => wN es.length fun n => some ⟨.v (.int .i64 (Int.ofNat n)),aaj x,[]⟩
            | _ => none
          | none => none
        | some y => match bc6 P x T [] y with
          | some r => some ⟨r.x,r.rt,r.rd⟩
          | none => none
        | none => none
      | _ => none
    | _ => none
  | .call ⟨.builtin .max, args, ts⟩ => match args.toList with
    | [x, y] => match rdC s x with
      | some (.v (.int .i64 a)) => match rdC s y with
        | some (.v (.int .i64 b)) => wI (if b > a then b else a) fun z => some ⟨.v (.int .i64 z),aaj x ++ aaj y,[]⟩
        | _ => none
      | _ => none
    | _ => none
  | op => match a0z P false True s op with
    | some r => match r.ob with
      | [] => some ⟨r.x,r.rt,r.rd⟩
      | _ => none
    | none => none
omit [Inhabited (Tys P)] in
theorem bc7 {N d : Nat} {s : AS} {R : Array Oper} {x y : Operand} {a b : Int} {t : TypeId} {ts : Array TypeId} {pos : String} {after : Array Edge} (hx : Ev s x (.v (.int .i64 a))) (hy : Ev s y (.v (.int .i64 b))) (hN : Nat.blt d N = true) :
  Step P N R s ⟨some d,.call ⟨.builtin .max,#[x,y],ts⟩,t,pos,after,none⟩ ⟨some (.v (.int .i64 (if b > a then b else a))),[],aaj x ++ aaj y,[]⟩ :=
 aaw rfl rfl hN fun s' hag C m ac w hr => ⟨.int .i64 (if b > a then b else a), by
  have h := (hx.agree hag (fun _ h => List.mem_append.2 (.inl h))).rep hr
  have h' := (hy.agree hag (fun _ h => List.mem_append.2 (.inr h))).rep hr
  generalize hu : ac.eval x = u at h
  generalize hv : ac.eval y = v at h'
  cases h; cases h'
  simp [execOp,resolve,hu,hv,invoke,builtin,Builtin.max_,Builtin.max2],.v _⟩
section
variable {s : AS} {R : Array Oper} {d : Nat} {t T : TypeId} {pos : String} {after : Array Edge}
theorem bb1 {op : BinOp} {x y : Operand} {vx vy : Value} {S : TypeId} {r : V1} (hx : Ev s x (.v vx)) (hy : Ev s y (.v vy)) (h : bg9 P op S x y vx vy = some r) (hN : Nat.blt d N = true) :
  Step P N R s ⟨some d,.binOp op S x y T,t,pos,after,none⟩ ⟨some r.x,[],r.rt,r.rd⟩ := by
 unfold bg9 at h
 split at h
 ·split at h
  ·exact a9y hx hy h hN
  ·cases h
 ·split at h
  ·split at h
   ·rename_i c
    have hc : c = .nilIface:=by cases hy; rfl
    subst hc
    split at h
    ·rename_i he
     split at h
     ·rename_i ti hti
      split at h
      ·rename_i hk
       split at h
       ·cases h; exact a3s hx (at2 he) (aav hti) hk hN
       ·cases h; exact a0b hx (at2 he) (aav hti) hk hN
       ·cases h
      ·cases h
     ·cases h
    ·cases h
   ·cases h
  ·split at h
   ·split at h
    ·have h9 := axw (P := P) (R := R) (S := S) (T := T) (t := t) (pos := pos) (after := after) hx hy hN
     rw [a1f] at h9
     split at h
     ·rename_i hb; rw [hb] at h9; cases h; exact h9
     ·rename_i hb; rw [hb] at h9; cases h; exact h9
    ·have h9 := a1j (P := P) (R := R) (S := S) (T := T) (t := t) (pos := pos) (after := after) hx hy hN
     rw [a1f] at h9
     split at h
     ·rename_i hb; rw [hb] at h9; cases h; exact h9
     ·rename_i hb; rw [hb] at h9; cases h; exact h9
    ·cases h
   ·cases h
  ·split at h
   ·rename_i r' h1
    split at h
    ·rename_i ho; cases h; exact a3w hx hy h1 (by rw [ho]; exact .nil) hN
    ·cases h
   ·cases h
theorem a0e {op : Op} {r : V1} (h : opV P s op = some r) (hN : Nat.blt d N = true) : Step P N R s ⟨some d, op, t, pos, after, none⟩ ⟨some r.x, [], r.rt, r.rd⟩ := by
 unfold opV at h
 split at h
 ·split at h
  ·rename_i hc
   split at h
   ·split at h
    ·rename_i z hz; cases h
     exact a30 (bz := z) (abf hc) (fun _ => abf hz) (fun e => by cases e) hN
    ·cases h
   ·split at h
    ·rename_i z hz; cases h
     exact a30 (bx := z) (abf hc) (fun e => by cases e) (fun _ => abf hz) hN
    ·cases h
  ·cases h
 ·rename_i op S x T
  split at h
  ·rename_i hop
   have hop : op = .eql \/ op = .neq:=by cases op <;> first | exact .inl rfl | exact .inr rfl | cases hop
   split at h
   ·rename_i xv hx
    split at h
    ·rename_i b hv
     split at h
     ·rename_i ti hti
      split at h
      ·rename_i hk
       have h9 := bal (P := P) (R := R) (T := T) (t := t) (pos := pos) (after := after) hop (abf hx) hv (aav hti) hk hN
       rcases hop with rfl | rfl
       ·cases h; exact h9
       ·cases b <;> (cases h; exact h9)
      ·cases h
     ·cases h
    ·cases h
   ·cases h
  ·cases h
 ·rename_i T hne
  split at h
  ·rename_i hx
   split at h
   ·rename_i hy; exact bb1 (abf hx) (abf hy) h hN
   ·cases h
  ·rename_i hx
   split at h
   ·rename_i hy
    unfold bi1 at h
    split at h
    ·split at h
     ·rename_i he
      have h9 := bhz (P := P) (R := R) (T := T) (t := t) (pos := pos) (after := after) (abf hx) (abf hy) he hN
      split at h
      ·rename_i hb; rw [hb] at h9; cases h; exact h9
      ·rename_i hb; rw [hb] at h9; cases h; exact h9
     ·cases h
    ·cases h
   ·cases h
  ·cases h
 ·split at h
  ·rename_i hx; rw [ap3] at h; cases h; exact a7p (abf hx) hN
  ·cases h
 ·split at h
  ·rename_i hx
   split at h
   ·rename_i hS
    split at h
    ·rename_i hT
     split at h
     ·rename_i hk; rw [ap3] at h; cases h; exact bgc (abf hx) hN (aav hS) (aav hT) hk
     ·cases h
    ·cases h
   ·cases h
  ·cases h
 ·split at h
  ·rename_i i hi
   split at h
   ·rename_i hx
    split at h
    ·rename_i hs
     obtain ⟨ti,E,te,h1,h2,h3,h4⟩ := anz hs
     split at h
     ·rename_i e he; cases h
      exact axu (i := Int.ofNat i) (abf hx) (abf hi) h1 h2 h3 h4 (Int.natCast_nonneg _) he hN
     ·cases h
    ·cases h
   ·rename_i hx
    split at h
    ·rename_i hs
     simp only [and_eq_true,Nat.blt_eq] at hs
     obtain ⟨ti,E,te,h1,h2,h3,h4⟩ := anz hs.1
     rw [avv] at h; cases h
     exact ag7 (i := Int.ofNat i) (abf hx) (abf hi) h1 h2 h3 h4 (Int.natCast_nonneg _) (Int.ofNat_lt.2 hs.2) hN
    ·cases h
   ·cases h
  ·cases h
 ·split at h
  ·rename_i hx
   split at h
   ·rename_i hk
    split at h
    ·rename_i hs
     split at h
     ·rename_i e he
      split at h
      ·rename_i ti hT
       split at h
       ·rename_i hle
        split at h
        ·rename_i v hv
         cases h
         cases eq_of_beq_eq_true hs
         obtain ⟨h1,rfl⟩ := be2 hv
         exact aay (abf hx) hk he (aav hT) hle h1 hN
        ·cases h
       ·cases h
      ·cases h
     ·cases h
    ·cases h
   ·cases h
  ·rename_i hx
   split at h
   ·rename_i ti hT
    split at h
    ·rename_i h1; cases h; exact axh (abf hx) (aav hT) h1 hN
    ·cases h
   ·cases h
  ·cases h
 ·split at h
  ·rename_i i hi
   split at h
   ·rename_i hx
    split at h
    ·rename_i ti hT
     split at h
     ·rename_i hk
      split at h
      ·rename_i hb
       rw [Nat.blt_eq] at hb
       rw [avv] at h; cases h
       exact akh (i := Int.ofNat i) (abf hx) (abf hi) (aav hT) hk (Int.natCast_nonneg _) (Int.ofNat_lt.2 hb) hN
      ·cases h
     ·cases h
    ·cases h
   ·cases h
  ·cases h
 ·split at h
  ·rename_i hx
   split at h
   ·rename_i l hl
    split at h
    ·rename_i hh hhi
     split at h
     ·rename_i hs
      simp only [and_eq_true,Nat.ble_eq] at hs
      obtain ⟨ti,E,te,h1,h2,h3,h4⟩ := anz hs.1.1
      split at h
      ·rename_i hr; cases h; cases afs hr
       exact aam (abf hx) (api hl) (api hhi) h1 h2 h3 h4 hs.1.2 hs.2 hN
      ·cases h
     ·cases h
    ·cases h
   ·cases h
  ·rename_i hx
   split at h
   ·rename_i hl
    split at h
    ·rename_i hh
     split at h
     ·rename_i ti hT
      split at h
      ·rename_i E hk
       split at h
       ·rename_i te hE
        cases h
        exact ayg (abf hx) (api hl) (api hh) (aav hT) hk (aav hE) hN
       ·cases h
      ·cases h
     ·cases h
    ·cases h
   ·cases h
  ·rename_i hx
   split at h
   ·rename_i l hl
    split at h
    ·rename_i hh hhi
     split at h
     ·rename_i hs
      simp only [and_eq_true,Nat.ble_eq] at hs
      obtain ⟨ti,E,te,h1,h2,h3,h4⟩ := anz hs.1.1
      rw [avv,avv] at h; cases h
      exact ah3 (abf hx) (api hl) (api hhi) h1 h2 h3 h4 hs.1.2 hs.2 hN
     ·cases h
    ·cases h
   ·cases h
  ·cases h
 ·rename_i args ts
  split at h
  ·rename_i x hx
   split at h
   ·rename_i T hT
    have e1 : args = #[x]:=by apply Array.toList_inj.1; simpa using hx
    have e2 : ts = #[T]:=by apply Array.toList_inj.1; simpa using hT
    subst e1; subst e2
    split at h
    ·rename_i h1
     split at h
     ·rename_i ti hti
      split at h
      ·rename_i hk; rw [avv] at h; cases h; exact awb (abf h1) (aav hti) hk hN
      ·cases h
     ·cases h
    ·rename_i h1
     split at h
     ·rename_i h2; cases h; exact a3y (abf h1) h2 hN
     ·cases h
    ·cases h
   ·cases h
  ·cases h
 ·rename_i args ts
  split at h
  ·rename_i x y hx
   split at h
   ·rename_i h1
    split at h
    ·rename_i h2
     have e1 : args = #[x,y]:=by apply Array.toList_inj.1; simpa using hx
     subst e1
     rw [ap3] at h; cases h; exact bc7 (abf h1) (abf h2) hN
    ·cases h
   ·cases h
  ·cases h
 ·split at h
  ·rename_i h1
   split at h
   ·rename_i ho; cases h; exact al8 h1 (by rw [ho]; exact .nil) trivial hN
   ·cases h
  ·cases h
end
end Go.Lw
namespace Go.Lw
variable {P : Program} {N : Nat}
def tr (a b k : Nat) : Nat := match Nat.beq k a with
  | true => b
  | false => match Nat.beq k b with
    | true => a
    | false => k
theorem bh0 (a b k : Nat) : tr a b k = if k = a then b else if k = b then a else k := by
 unfold tr
 split
 ·rename_i h; rw [if_pos (eq_of_beq_eq_true h)]
 ·rename_i h; rw [if_neg (Nat.ne_of_beq_eq_false h)]
  split
  ·rename_i h; rw [if_pos (eq_of_beq_eq_true h)]
  ·rename_i h; rw [if_neg (Nat.ne_of_beq_eq_false h)]
theorem a7w (a b k : Nat) : tr a b (tr a b k) = k := by
 simp only [bh0]
 by_cases h1 : k = a
 ·subst h1
  by_cases h2 : b = k
  ·simp [h2]
  ·simp [h2]
 ·by_cases h2 : k = b
  ·subst h2; simp [h1]
  ·simp [h1,h2]
theorem a1h {σ : Nat -> Nat} (hσ : ∀ k, σ (σ k) = k) : ∀ H : Hp, pmH σ (pmH σ H) = H
 | [] => rfl
 | (k, x) :: l => by
  simp only [pmH,hσ,a1h hσ l]
  cases x with
  | none => rfl
  | some x => simp only [Blk.pm_pm hσ]
def tA : List (Nat × Nat) -> List AV -> List AV
  | [],xs => xs
  | p :: L,xs => tA L (xs.map (AV.pm (tr p.1 p.2)))
def tH : List (Nat × Nat) -> Hp -> Hp
  | [],H => H
  | p :: L,H => tH L (pmH (tr p.1 p.2) H)
def rB : List (Nat × Nat) -> AV -> AV
  | [],r => r
  | p :: L,r => (rB L r).pm (tr p.1 p.2)
def hB : List (Nat × Nat) -> Hp -> Hp
  | [],H => H
  | p :: L,H => pmH (tr p.1 p.2) (hB L H)
theorem biz {f : FuncId} : ∀ {L : List (Nat × Nat)} {xs : List AV} {H H' : Hp} {r : AV}, Con P f (tA L xs) (tH L H) r H' -> Con P f xs H (rB L r) (hB L H')
 | [],xs,H,H',r,h => h
 | p :: L, xs, H, H', r, h => by
  have h1 := (biz (L := L) h).pm (a7w p.1 p.2)
  rw [a1h (a7w p.1 p.2),map_map] at h1
  have e : (AV.pm (tr p.1 p.2) ∘ AV.pm (tr p.1 p.2)) = id:=by funext x; exact AV.pm_pm (a7w p.1 p.2) x
  rw [e,map_id] at h1
  exact h1
def biu : Nat -> List Nat -> List (Nat × Nat)
  | _,[] => []
  | b,k :: ks => (k,b) :: biu (b + 1) ks
def azc (k : Nat) : List Nat -> Bool
  | [] => false
  | x :: l => match Nat.beq k x with
    | true => true
    | false => azc k l
def azx (s : AS) : Nat -> List Nat -> List Nat -> List Nat
  | 0,_,acc => acc
  | n + 1, ks, acc => match ks with
    | [] => acc
    | k :: ks => match azc k acc with
      | true => azx s n ks acc
      | false => match s.blk k with
        | some z => azx s n (z.nm ++ ks) (acc ++ [k])
        | none => azx s n ks acc
def pkH (s : AS) : List Nat -> Hp
  | [] => []
  | k :: ks => match s.blk k with
    | some z => (k,some z) :: pkH s ks
    | none => pkH s ks
theorem ar7 {s : AS} : ∀ {ks : List Nat} {k : Nat} {z : Blk}, lk (pkH s ks) k = some z -> lk s.hp k = some z
 | [],k,z,h => by cases h
 | k' :: ks, k, z, h => by
  unfold pkH at h
  split at h
  ·rename_i y hy
   rw [aac] at h
   split at h
   ·rename_i e; cases h; rw [e]; exact hy
   ·exact ar7 h
  ·exact ar7 h
structure Ent (P : Program) where
  f : FuncId
  xs : List AV
  r : AV
  H' : Hp
  con : Con P f xs [] r H'
structure FE (P : Program) where
  f : FuncId
  fn : Func
  c : Code
  rs : List ResultVar
  hf : P.funcs[f]? = some fn
  hb : fn.body = some c
  hn : (fn.name == "runtime.NumGoroutine") = false
  hrs : fn.results = rs.toArray
structure Env (P : Program) where
  orc : FuncId -> Option (List AV -> Option (Ent P))
  fe : FuncId -> Option (FE P)
  mt : FuncId -> Bool
def vEq : Value -> Value -> Bool
  | .int k a,.int k' b => Nat.beq (ikn k) (ikn k') && aaa .eql a b
  | .bool a,.bool b => a == b
  | .nilIface,.nilIface => true
  | .string a,.string b => ban a b
  | .slice none 0 0,.slice none 0 0 => true
  | .func (.func f) ⟨[]⟩ ⟨[]⟩,.func (.func g) ⟨[]⟩ ⟨[]⟩ => Nat.beq f g
  | .nilFunc,.nilFunc => true
  | .pointer none,.pointer none => true
  | .iface T v,.iface T' v' => Nat.beq T T' && vEq v v'
  | _,_ => false
theorem bcl {a b : ByteArray} (h : ban a b = true) : a = b := by
 unfold ban at h
 rw [aus] at h
 have h := eq_of_beq h
 have e : ∀ c : ByteArray,c = ⟨⟨c.data.toList⟩⟩ := fun c => by cases c; rfl
 rw [e a,e b,h]
theorem aw4 : ∀ (a b : Value), vEq a b = true -> a = b
 | .iface T v, b, h => by
  cases b with
  | iface T' v' =>
   simp only [vEq,and_eq_true] at h
   rw [eq_of_beq_eq_true h.1,aw4 v v' h.2]
  | _ => simp [vEq] at h
 | .int k a, b, h => by
  cases b with
  | int k' b =>
   simp only [vEq,and_eq_true] at h
   rw [ag3 h.1,eq_of_beq (show (a == b) = true from h.2)]
  | _ => simp [vEq] at h
 | .bool a, b, h => by
  cases b with
  | bool b => simp only [vEq,beq_iff_eq] at h; rw [h]
  | _ => simp [vEq] at h
 | .string a, b, h => by
  cases b with
  | string b => simp only [vEq] at h; rw [bcl h]
  | _ => simp [vEq] at h
 | .nilIface, b, h => by
  cases b <;> simp [vEq] at h
  rfl
 | .slice x n c, b, h => by
  unfold vEq at h
  split at h <;> simp_all
 | .float ..,b,h => by simp [vEq] at h
 | .complex ..,b,h => by simp [vEq] at h
 | .pointer p, b, h => by
  unfold vEq at h
  split at h <;> simp_all
 | .map _,b,h => by simp [vEq] at h
 | .chan _,b,h => by simp [vEq] at h
 | .func f x y, b, h => by
  unfold vEq at h
  split at h <;> first | (simp_all; done) | (simp_all; exact eq_of_beq_eq_true h)
 | .nilFunc, b, h => by
  unfold vEq at h
  split at h <;> simp_all
 | .agg _,b,h => by simp [vEq] at h
 | .tuple _,b,h => by simp [vEq] at h
mutual
def al5 : AV -> AV -> Bool
  | .v a, y => match y with
    | .v b => vEq a b
    | .lst _ es => match es with
      | [] => match a with
        | .slice _ 0 _ => true
        | _ => false
      | _ => false
    | _ => false
  | .lst sz es, y => match y with
    | .lst sz' es' => Nat.beq sz sz' && avf es es'
    | _ => false
  | .agg cs, y => match y with
    | .agg cs' => auw cs cs'
    | _ => false
  | .tup cs, y => match y with
    | .tup cs' => ay7 cs cs'
    | _ => false
  | _,_ => false
def auw : List AV -> List AV -> Bool
  | [], y => match y with
    | [] => true
    | _ => false
  | x :: l, y => match y with
    | x' :: l' => x'.one && al5 x x' && auw l l'
    | [] => false
def ay7 : List AV -> List AV -> Bool
  | [], y => match y with
    | [] => true
    | _ => false
  | x :: l, y => match y with
    | x' :: l' => al5 x x' && ay7 l l'
    | [] => false
def avf : List AV -> List AV -> Bool
  | [], y => match y with
    | [] => true
    | _ => false
  | x :: l, y => match y with
    | x' :: l' => aq4 x x' && avf l l'
    | [] => false
def aq4 : AV -> AV -> Bool
  | .agg cs, y => match y with
    | .agg cs' => auw cs cs'
    | _ => false
  | .v a, y => match y with
    | .v b => vEq a b && b.oneCell'
    | .lst _ es => match es with
      | [] => match a with
        | .slice _ 0 _ => true
        | _ => false
      | _ => false
    | _ => false
  | .lst sz es, y => match y with
    | .lst sz' es' => Nat.beq sz sz' && avf es es'
    | _ => false
  | _,_ => false
end
theorem bde {a : Value} {y : AV} (h : al5 (.v a) y = true) : Sub (.v a) y := by
 cases y with
 | v b => simp only [al5] at h; rw [aw4 _ _ h]; exact .refl _
 | lst sz es =>
  cases es with
  | nil =>
   cases a with
   | slice x n c =>
    cases n with
    | zero => exact .nil _ _ _
    | succ n => simp [al5] at h
   | _ => simp [al5] at h
  | cons e es => simp [al5] at h
 | _ => simp [al5] at h
mutual
theorem aur : ∀ (x y : AV), al5 x y = true -> Sub x y
 | .v a,y,h => bde h
 | .lst sz es, y, h => by
  cases y with
  | lst sz' es' =>
   simp only [al5,and_eq_true] at h
   cases eq_of_beq_eq_true h.1
   exact Sub.lst (ajz es es' h.2).1 (ajz es es' h.2).2
  | _ => simp [al5] at h
 | .agg cs, y, h => by
  cases y with
  | agg cs' =>
   simp only [al5] at h
   exact Sub.agg (al6 cs cs' h).1 (al6 cs cs' h).2
  | _ => simp [al5] at h
 | .tup cs, y, h => by
  cases y with
  | tup cs' =>
   simp only [al5] at h
   exact Sub.tup (axj cs cs' h)
  | _ => simp [al5] at h
 | .iptr _,y,h => by simp [al5] at h
 | .ms ..,y,h => by simp [al5] at h
 | .ptr ..,y,h => by simp [al5] at h
 | .eptr ..,y,h => by simp [al5] at h
 | .fn ..,y,h => by simp [al5] at h
 | .opt ..,y,h => by simp [al5] at h
 | .yl ..,y,h => by simp [al5] at h
 | .cl ..,y,h => by simp [al5] at h
theorem al6 : ∀ (l l' : List AV), auw l l' = true -> SubL l l' /\ l'.all AV.one = true
 | [],[],h => ⟨.nil,rfl⟩
 | [],_ :: _,h => by simp [auw] at h
 | _ :: _,[],h => by simp [auw] at h
 | x :: l, x' :: l', h => by
  simp only [auw,and_eq_true] at h
  obtain ⟨h1,h2⟩ := al6 l l' h.2
  exact ⟨.cons (aur x x' h.1.2) h1,by simp only [List.all_cons,h.1.1,h2,Bool.and_self]⟩
theorem axj : ∀ (l l' : List AV), ay7 l l' = true -> SubL l l'
 | [],[],h => .nil
 | [],_ :: _,h => by simp [ay7] at h
 | _ :: _,[],h => by simp [ay7] at h
 | x :: l, x' :: l', h => by
  simp only [ay7,and_eq_true] at h
  exact .cons (aur x x' h.1) (axj l l' h.2)
theorem ajz : ∀ (l l' : List AV), avf l l' = true -> l.length = l'.length /\ ∀ (i : Nat) (e e' : AV), l[i]? = some e -> l'[i]? = some e' -> ad0 e e'
 | [],[],h => ⟨rfl,fun i e e' h => by simp at h⟩
 | [],_ :: _,h => by simp [avf] at h
 | _ :: _,[],h => by simp [avf] at h
 | x :: l, x' :: l', h => by
  simp only [avf,and_eq_true] at h
  obtain ⟨h1,h2⟩ := ajz l l' h.2
  refine ⟨by simp [h1],?_⟩
  intro i e e' he he'
  cases i with
  | zero => simp at he he'; subst he; subst he'; exact a92 x x' h.1
  | succ i => exact h2 i e e' (by simpa using he) (by simpa using he')
theorem a92 : ∀ (x y : AV), aq4 x y = true -> ad0 x y
 | .v a, y, h => by
  have one : ∀ {z : AV}, z.cells = [z] -> z.one = true -> Sub (.v a) z -> ad0 (.v a) z := by
   intro z h1 h2 h3
   refine ⟨by rw [h1]; rfl,?_⟩
   intro j x y hx hy
   rw [h1] at hy
   cases j with
   | zero => simp [AV.cells] at hx hy; subst hx; subst hy; exact ⟨h2,h3⟩
   | succ j => simp at hy
  cases y with
  | v b =>
   simp only [aq4,and_eq_true] at h
   exact one rfl h.2 (by rw [aw4 _ _ h.1]; exact .refl _)
  | lst sz es =>
   refine one rfl rfl (bde ?_)
   cases es with
   | nil => unfold aq4 at h; unfold al5; exact h
   | cons => simp [aq4] at h
  | _ => simp [aq4] at h
 | .lst sz es, y, h => by
  cases y with
  | lst sz' es' =>
   simp only [aq4,and_eq_true] at h
   cases eq_of_beq_eq_true h.1
   refine ⟨rfl,?_⟩
   intro j x y hx hy
   cases j with
   | zero =>
    simp [AV.cells] at hx hy; subst hx; subst hy
    exact ⟨rfl,Sub.lst (ajz es es' h.2).1 (ajz es es' h.2).2⟩
   | succ j => simp [AV.cells] at hy
  | _ => simp [aq4] at h
 | .agg cs, y, h => by
  cases y with
  | agg cs' =>
   simp only [aq4] at h
   obtain ⟨h1,h2⟩ := al6 cs cs' h
   exact ⟨h1.len,fun j x y hx hy => ⟨List.all_eq_true.1 h2 y (mem_of_getElem? hy),h1.get j x y hx hy⟩⟩
  | _ => simp [aq4] at h
 | .tup ..,y,h => by simp [aq4] at h
 | .iptr _,y,h => by simp [aq4] at h
 | .ms ..,y,h => by simp [aq4] at h
 | .ptr ..,y,h => by simp [aq4] at h
 | .eptr ..,y,h => by simp [aq4] at h
 | .fn ..,y,h => by simp [aq4] at h
 | .opt ..,y,h => by simp [aq4] at h
 | .yl ..,y,h => by simp [aq4] at h
 | .cl ..,y,h => by simp [aq4] at h
end
end Go.Lw
