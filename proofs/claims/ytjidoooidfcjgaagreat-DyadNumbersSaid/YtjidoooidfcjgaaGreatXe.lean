/- DyadNumbers: for any linkage, any group and any assembly the law returns true and leaves its arguments as they were. No other condition. Part 5 of 7: what the later parts need -/
import Derived.Test.YtjidoooidfcjgaaGreatXd
import Derived.Test.YtjidoooidfcjgaaGreatRows
set_option linter.unusedVariables false
open List (mem_of_getElem? mem_cons_of_mem mem_append map_cons mem_cons length_cons mem_cons_self length_append length_nil getD_eq_getElem?_getD getElem?_map getElem?_eq_getElem nil_append map_append length_take take_of_length_le drop_zero take_length not_mem_nil length_map length_replicate map_replicate map_set length_set)
open Nat (eq_of_beq_eq_true le_refl lt_or_ge le_trans zero_le)
open Option (map_eq_some_iff)
open Bool (and_eq_true or_eq_true)
open Int (toNat_natCast)
open Go.Proofs.Tryz
namespace Go.Lw
open Go.Proofs
theorem aib (ts : List (List Rat)) (m r : Nat) (ht : a3z ts m r) (hm : m <= 5) (R : List AV) (hR : ∀ j, j < m -> R[j]? = some (nA (ts.getD j []))) (k : Nat) : ∀ (j : Nat) (a b : List Rat) (e f : Nat), j <= m -> j <= k -> Nl j a -> Nl j b -> Cb e a -> Cb f b -> e + f + eB r j < 4398046511104 ->
  FnC prog 294 [.agg [.lst 1 R],nA a,nA b] (nA (rT ts k a b)) := by
 induction k using Nat.strongRecOn
 rename_i k ih
 intro j a b e f hj hjk ha hb ca cb hs
 obtain ⟨nx,dx⟩ := aoh ha (by omega)
 obtain ⟨ny,dy⟩ := aoh hb (by omega)
 have cx : Cb e (aaq 5 a) := ca.sub (fun q hq => ahx 5 hq)
 have cy : Cb f (aaq 5 b) := cb.sub (fun q hq => ahx 5 hq)
 have k1 := afb a (by omega) ha
 have k2 := afb b (by omega) hb
 rw [<- ai3 ha (by omega)] at k1
 rw [<- ai3 hb (by omega)] at k2
 obtain ⟨x,hx⟩ : ∃ x,x = aaq 5 a := ⟨_,rfl⟩
 obtain ⟨y,hy⟩ : ∃ y,y = aaq 5 b := ⟨_,rfl⟩
 rw [<- hx] at k1 nx dx cx
 rw [<- hy] at k2 ny dy cy
 have hlx := nx.len5 (by omega)
 have hly := ny.len5 (by omega)
 obtain ⟨n,hn⟩ : ∃ n,n = max x.length y.length := ⟨_,rfl⟩
 refine gF0 func294 ?_
 refine gc k1 ?_
 refine gc k2 ?_
 refine gl ?_
 refine gl ?_
 refine gs (a21 (.tmp rfl) (.tmp rfl) rfl) ?_ (3,0)
 refine gW (Wk.of (sl := [(1,some (nA x)),(2,some (nA y)),(3,some (.ptr 3 0)),(7,some (i64 n))]) (hp := [(3,some (.box [.lst 1 R]))]) (.k (.k (.k (.cons rfl (Sub.int (by omega)) .nil)))) (.cons rfl (.refl _) .nil)) ?_
 refine gl ?_
 refine glG ?_
 refine gC (fun ht32 => ?_) (fun ht32 => ?_)
 ·have h0 : x.length = 0 \/ y.length = 0 := by have := ay5 ht32; omega
  refine gR ?_
  exact aeo (by rw [a76 (by rw [<- hx,<- hy]; exact h0)]; exact Sub.nil _ _ _)
 ·have h0 : ¬ (x.length = 0 \/ y.length = 0) := by have := atz ht32; omega
  refine gC (fun ht34 => ?_) (fun ht34 => ?_)
  ·have h1 : max x.length y.length = 1 := by have := ht34; simp only [aaa, beq_iff_eq] at this; omega
   have e1 := bcz (ts := ts) (k := k) (a := a) (b := b) (by rw [<- hx,<- hy]; exact h0) (by rw [<- hx,<- hy]; exact h1)
   rw [<- hx,<- hy] at e1
   clear hx hy
   have lx1 : x.length = 1:=by omega
   have ly1 : y.length = 1:=by omega
   clear hn
   obtain ⟨p,rfl⟩ : ∃ p,x = [p] := List.length_eq_one_iff.1 lx1
   obtain ⟨q,rfl⟩ : ∃ q,y = [q] := List.length_eq_one_iff.1 ly1
   refine gi rfl ?_
   refine gi rfl ?_
   refine gc (a4o (rt p) (rt q) (cx.qs (by omega) (by simp : p ∈ [p])).ok (cy.qs (by omega) (by simp : q ∈ [q])).ok) ?_
   refine gD ?_
   refine gE1 ?_
   rw [e1,ah0,ah0]; rfl
  ·have h1 : n ≠ 1 := by have := ht34; simp only [aaa, beq_eq_false_iff_ne, ne_eq] at this; omega
   obtain ⟨i,hij,hmax⟩ := (bdh nx ny h0).resolve_left (by omega)
   obtain ⟨k',rfl⟩ : ∃ k',k = k' + 1 := ⟨k - 1,by omega⟩
   have hp2 := Nat.two_pow_pos i
   have hpi : 2 ^ i <= 32 := abi (b := 5) (by omega)
   have hps : 2 ^ (i + 1) = 2 * 2 ^ i:=by rw [Nat.pow_succ]; omega
   have hnn : n = 2 ^ (i + 1):=by omega
   have hes : eB r (i + 1) <= eB r j := bdk r hij
   have hee : eB r (i + 1) = 2 * eB r i + r + 2 := rfl
   have lx : (aax x (2 ^ (i + 1))).length = 2 ^ (i + 1) := abd (by omega)
   have ly : (aax y (2 ^ (i + 1))).length = 2 ^ (i + 1) := abd (by omega)
   obtain ⟨X,hX⟩ : ∃ X,X = aax x (2 ^ (i + 1)) := ⟨_,rfl⟩
   obtain ⟨Y,hY⟩ : ∃ Y,Y = aax y (2 ^ (i + 1)) := ⟨_,rfl⟩
   have cX : Cb e X:=by rw [hX]; exact cx.wide
   have cY : Cb f Y:=by rw [hY]; exact cy.wide
   rw [<- hX] at lx
   rw [<- hY] at ly
   have n1 : Nl i (X.take (2 ^ i)) := .inr ⟨i,le_refl _,adq lx⟩
   have n2 : Nl i (X.drop (2 ^ i)) := .inr ⟨i,le_refl _,ad9 lx⟩
   have n3 : Nl i (Y.take (2 ^ i)) := .inr ⟨i,le_refl _,adq ly⟩
   have n4 : Nl i (Y.drop (2 ^ i)) := .inr ⟨i,le_refl _,ad9 ly⟩
   have nd := ht.1 i (by omega)
   have cd := ht.2.cb i
   have s1 := af1 hm ht (k := k') (show i <= m by omega) (by omega) n1 n3 cX.take cY.take
   have s2 := af1 hm ht (k := k') (show i <= m by omega) (by omega) n2 n4 cX.drop cY.drop
   have s3 := af1 hm ht (k := k') (show i <= m by omega) (by omega) s2.1 nd s2.2.2 cd
   have s4 := af1 hm ht (k := k') (show i <= m by omega) (by omega) n1 n4 cX.take cY.drop
   have s5 := af1 hm ht (k := k') (show i <= m by omega) (by omega) n2 n3 cX.drop cY.take
   have hrt := a5r (ts := ts) (k := k') (a := a) (b := b) rfl (by rw [<- hx,<- hy]; exact h0) (by rw [<- hx,<- hy]; exact hmax)
   rw [<- hx,<- hy,<- hX,<- hY] at hrt
   have w1 := agc x n (by omega) (by omega)
   have w2 := agc y n (by omega) (by omega)
   rw [hnn,<- hX] at w1
   rw [hnn,<- hY] at w2
   rw [<- hnn] at w1 w2
   have pw := agf n (by omega)
   rw [show pwk n = i + 1 by rw [hnn]; exact (as2 (by omega)).1,show pwb n = true by rw [hnn]; exact (as2 (by omega)).2] at pw
   refine gc w1 ?_
   refine gc w2 ?_
   refine gc pw ?_
   refine gs (aea (.tmp rfl) (.const _) (by omega) (show _ = ((2 ^ i : Nat) : Int) by rw [acl (by omega),hnn,ab5]) rfl) ?_
   refine gs (aap (.tmp rfl) (.none _) (.some _ (.tmp rfl) (by omega)) T38 rfl T82 rfl (by omega) (by simp only [length_map]; omega) rfl) ?_
   refine gs (aea (.tmp rfl) (.const _) (by omega) (show _ = ((2 ^ i : Nat) : Int) by rw [acl (by omega),hnn,ab5]) rfl) ?_
   refine gs (aap (.tmp rfl) (.some _ (.tmp rfl) (by omega)) (.none _) T38 rfl T82 rfl (by simp only [length_map]; omega) (by omega) rfl) ?_
   refine gs (aea (.tmp rfl) (.const _) (by omega) (show _ = ((2 ^ i : Nat) : Int) by rw [acl (by omega),hnn,ab5]) rfl) ?_
   refine gs (aap (.tmp rfl) (.none _) (.some _ (.tmp rfl) (by omega)) T38 rfl T82 rfl (by omega) (by simp only [length_map]; omega) rfl) ?_
   refine gs (aea (.tmp rfl) (.const _) (by omega) (show _ = ((2 ^ i : Nat) : Int) by rw [acl (by omega),hnn,ab5]) rfl) ?_
   refine gs (aap (.tmp rfl) (.some _ (.tmp rfl) (by omega)) (.none _) T38 rfl T82 rfl (by simp only [length_map]; omega) (by omega) rfl) ?_
   refine gD ?_ (10,0)
   refine gW (Wk.of (sl := [(3,some (.ptr 3 0)),(7,some (i64 n)),(8,some (i64 ((i + 1 : Nat) : Int))),(10,some (nA (X.take (2 ^ i)))),(11,some (nA (X.drop (2 ^ i)))),(12,some (nA (Y.take (2 ^ i)))),(13,some (nA (Y.drop (2 ^ i))))]) (hp := [(3,some (.box [.lst 1 R]))]) (.k (.k (.k (.cons rfl (Sub.of (aji X (2 ^ i))) (.cons rfl (Sub.of (ag2 X (2 ^ i))) (.cons rfl (Sub.of (aji Y (2 ^ i))) (.cons rfl (Sub.of (ag2 Y (2 ^ i))) .nil))))))) (.cons rfl (.refl _) .nil)) ?_
   refine gc (ih k' (by omega) i _ _ e f (by omega) (by omega) n1 n3 cX.take cY.take (by omega)) ?_
   refine gc (ih k' (by omega) i _ _ e f (by omega) (by omega) n2 n4 cX.drop cY.drop (by omega)) ?_
   refine ga (show _ = (i : Int) by rw [abe (by omega)]; omega) ?_
   refine gi (hR i (by omega)) ?_
   refine gc (ih k' (by omega) i _ _ _ _ (by omega) (by omega) s2.1 nd s2.2.2 cd (by omega)) ?_
   refine gc (age _ _ (fun q hq => s1.2.2.qs (by omega) hq) (fun q hq => s3.2.2.qs (by omega) hq) (by have := s1.1.le; omega) (by have := s3.1.le; omega)) ?_
   refine gD ?_
   refine gc (ih k' (by omega) i _ _ e f (by omega) (by omega) n1 n4 cX.take cY.drop (by omega)) ?_
   refine gc (ih k' (by omega) i _ _ e f (by omega) (by omega) n2 n3 cX.drop cY.take (by omega)) ?_
   refine gc (age _ _ (fun q hq => s4.2.2.qs (by omega) hq) (fun q hq => s5.2.2.qs (by omega) hq) (by have := s4.1.le; omega) (by have := s5.1.le; omega)) ?_
   refine gD ?_
   refine gs (aea (.tmp rfl) (.const _) (by omega) (show _ = ((2 ^ i : Nat) : Int) by rw [acl (by omega),hnn,ab5]) rfl) ?_
   refine gt (aad (akp 900 rfl _ (2 ^ i) (by have := s1.1.le; have := s3.1.le; rw [abl]; omega) (by omega)) (.cons (.tmp rfl) (.cons (.tmp rfl) .nil)) (by first | exact hH0 | exact hH1 rfl | exact hH2 rfl rfl) rfl rfl) ?_
   refine gs (aea (.tmp rfl) (.const _) (by omega) (show _ = ((2 ^ i : Nat) : Int) by rw [acl (by omega),hnn,ab5]) rfl) ?_
   refine gc (agc _ (2 ^ i) (by have := s4.1.le; have := s5.1.le; rw [abl]; omega) (by omega)) ?_
   refine gs (agq (.tmp rfl) rfl (by have := s1.1.le; have := s3.1.le; rw [length_map,abd (by rw [abl]; omega)]) (.tmp rfl) T38 rfl T82 rfl rfl (by have := s4.1.le; have := s5.1.le; rw [length_map,abd (by rw [abl]; omega)]; show (2 ^ i + 2 ^ i) * 56 <= 140737488355328; omega) rfl rfl) ?_
   refine gE1 ?_
   rw [hrt,<- map_append]; rfl
theorem a19 (ts : List (List Rat)) (m r : Nat) (ht : a3z ts m r) (hm : m <= 5) (R : List AV) (hR : ∀ j, j < m -> R[j]? = some (nA (ts.getD j []))) (i n : Nat) (a : List Rat) (e : Nat) (hi : i + 1 <= m) (hnn : n = 2 ^ (i + 1)) (hal : a.length = 2 ^ (i + 1)) (ca : Cb e a) (hs : 4 * e + 3 * eB r i + r + 1 < 4398046511104) :
  FnC prog 293 [.agg [.lst 1 R],nA a,i64 n] (nA (aph ts i a)) := by
 have hp2 := Nat.two_pow_pos i
 have hpi : 2 ^ i <= 32 := abi (b := 5) (by omega)
 have hps : 2 ^ (i + 1) = 2 * 2 ^ i:=by rw [Nat.pow_succ]; omega
 have n1 : Nl i (a.take (2 ^ i)) := .inr ⟨i,le_refl _,adq hal⟩
 have n2 : Nl i (a.drop (2 ^ i)) := .inr ⟨i,le_refl _,ad9 hal⟩
 have nd := ht.1 i (by omega)
 have cd := ht.2.cb i
 have s1 := af1 hm ht (k := i) (show i <= m by omega) (by omega) n1 n1 ca.take ca.take
 have s2 := af1 hm ht (k := i) (show i <= m by omega) (by omega) n2 n2 ca.drop ca.drop
 have s3 := af1 hm ht (k := i) (show i <= m by omega) (by omega) s2.1 nd s2.2.2 cd
 have w1 := agc a n (by omega) (by omega)
 rw [show aax a n = a by unfold aax; rw [hnn,hal]; simp] at w1
 have pw := agf n (by omega)
 rw [show pwk n = i + 1 by rw [hnn]; exact (as2 (by omega)).1,show pwb n = true by rw [hnn]; exact (as2 (by omega)).2] at pw
 refine gF0 func293 ?_
 refine gc w1 ?_
 refine gc pw ?_
 refine gs (aea (.tmp rfl) (.const _) (by omega) (show _ = ((2 ^ i : Nat) : Int) by rw [acl (by omega),hnn,ab5]) rfl) ?_
 refine gs (aap (.tmp rfl) (.none _) (.some _ (.tmp rfl) (by omega)) T38 rfl T82 rfl (by omega) (by simp only [length_map]; omega) rfl) ?_
 refine gs (aea (.tmp rfl) (.const _) (by omega) (show _ = ((2 ^ i : Nat) : Int) by rw [acl (by omega),hnn,ab5]) rfl) ?_
 refine gs (aap (.tmp rfl) (.some _ (.tmp rfl) (by omega)) (.none _) T38 rfl T82 rfl (by simp only [length_map]; omega) (by omega) rfl) ?_
 refine gD ?_ (4,0)
 refine gW (Wk.of (sl := [(3,some (.ptr 3 0)),(7,some (i64 ((i + 1 : Nat) : Int))),(9,some (nA (a.take (2 ^ i)))),(10,some (nA (a.drop (2 ^ i))))]) (hp := [(3,some (.box [.lst 1 R]))]) (.k (.k (.cons rfl (Sub.of (aji a (2 ^ i))) (.cons rfl (Sub.of (ag2 a (2 ^ i))) .nil)))) (.cons rfl (.refl _) .nil)) ?_
 refine gc (aib ts m r ht hm R hR i i _ _ e e (by omega) (by omega) n1 n1 ca.take ca.take (by omega)) ?_
 refine gc (aib ts m r ht hm R hR i i _ _ e e (by omega) (by omega) n2 n2 ca.drop ca.drop (by omega)) ?_
 refine ga (show _ = (i : Int) by rw [abe (by omega)]; omega) ?_
 refine gi (hR i (by omega)) ?_
 refine gc (aib ts m r ht hm R hR i i _ _ _ _ (by omega) (by omega) s2.1 nd s2.2.2 cd (by omega)) ?_
 refine gc (am2 _ (fun q hq => s3.2.2.qs (by omega) hq) (by have := s3.1.le; omega)) ?_
 refine gc (age _ _ (fun q hq => s1.2.2.qs (by omega) hq) (fun q hq => s3.2.2.minus.qs (by omega) hq) (by have := s1.1.le; omega) (by have := s3.1.le; rw [adc]; omega)) ?_
 refine gD ?_
 refine gE1 ?_
 rfl
theorem arb (ts : List (List Rat)) (m r : Nat) (ht : a3z ts m r) (hm : m <= 5) (hpos : ∀ j, j < m -> 0 <= T.sgn (aav ts) j (aav ts j)) (R : List AV) (hR : ∀ j, j < m -> R[j]? = some (nA (ts.getD j []))) (j : Nat) : ∀ (a : List Rat) (e : Nat), j <= m -> Nl j a -> Cb e a -> sB r j e < 4398046511104 ->
  FnC prog 176 [.agg [.lst 1 R],nA a] (i64 (T.sgn (aav ts) j (dec j a))) := by
 induction j using Nat.strongRecOn
 rename_i j ih
 intro a e hj ha ca hs
 have hse := a6f r j e
 obtain ⟨s,hsa⟩ : ∃ s,s = sh j (dec j a) := ⟨_,rfl⟩
 have hsd : dec j s = dec j a:=by rw [hsa,aek]
 have hsn : Nl j s:=by rw [hsa]; exact aqd j _
 have cs : Cb e s:=by rw [hsa]; exact ca.sh ha
 have hls := hsn.len5 (by omega)
 rw [<- hsd]
 refine gF0 func176 ?_
 refine gc (hsa ▸ afb a (by omega) ha) ?_
 refine gl ?_
 refine gC (fun ht15 => ?_) (fun ht15 => ?_)
 ·have h1 : s = [] := List.length_eq_zero_iff.1 (by have := ht15; simp only [aaa, beq_iff_eq] at this; omega)
  refine gE1 ?_
  rw [h1,agx,T.sgn_zero]; rfl
 ·have h1 : s.length ≠ 0 := by have := ht15; simp only [aaa, beq_eq_false_iff_ne, ne_eq] at this; omega
  refine gl ?_
  refine gC (fun ht19 => ?_) (fun ht19 => ?_)
  ·have h2 : s.length = 1 := by have := ht19; simp only [aaa, beq_iff_eq] at this; omega
   obtain ⟨q,rfl⟩ := List.length_eq_one_iff.1 h2
   refine gi rfl ?_
   refine gc (am0 (rt q) (cs.qs (by omega) (by simp : q ∈ [q])).ok) ?_
   refine gE1 ?_
   rw [amb,T.sgn_ofQ,ah0]
  ·have h2 : s.length ≠ 1 := by have := ht19; simp only [aaa, beq_eq_false_iff_ne, ne_eq] at this; omega
   obtain ⟨i, hij, hsl⟩ : ∃ i, i + 1 <= j /\ s.length = 2 ^ (i + 1) := by
    rcases ajx hsn with h | h | h
    ·exact absurd h h1
    ·exact absurd h h2
    ·exact h
   have hp2 := Nat.two_pow_pos i
   have hpi : 2 ^ i <= 32 := abi (b := 5) (by omega)
   have hps : 2 ^ (i + 1) = 2 * 2 ^ i:=by rw [Nat.pow_succ]; omega
   have n1 : Nl i (s.take (2 ^ i)) := .inr ⟨i,le_refl _,adq hsl⟩
   have n2 : Nl i (s.drop (2 ^ i)) := .inr ⟨i,le_refl _,ad9 hsl⟩
   have nd := ht.1 i (by omega)
   have cd := ht.2.cb i
   obtain ⟨nn,dn,cn⟩ := ax3 hm ht (by omega) hsl cs
   have b1 : sB r i (4 * e + 3 * eB r i + r + 1) <= sB r j e := a0y r e hij
   have b2 : sB r i e <= sB r i (4 * e + 3 * eB r i + r + 1) := amq r i (by omega)
   have b3 : sB r i r <= sB r i (4 * e + 3 * eB r i + r + 1) := amq r i (by omega)
   have b4 := a6f r i (4 * e + 3 * eB r i + r + 1)
   have k1 := ih i (by omega) (s.take (2 ^ i)) e (by omega) n1 cs.take (by omega)
   have k2 := ih i (by omega) (s.drop (2 ^ i)) e (by omega) n2 cs.drop (by omega)
   have k3 := ih i (by omega) _ r (by omega) nd cd (by omega)
   have k4 := ih i (by omega) _ _ (by omega) nn cn (by omega)
   have v3 : T.sgn (aav ts) i (dec i (ts.getD i [])) = 0 \/ T.sgn (aav ts) i (dec i (ts.getD i [])) = 1 := by
    have h9 : 0 <= T.sgn (aav ts) i (dec i (ts.getD i [])) := hpos i (by omega)
    have := T.sgn_cases (aav ts) i (dec i (ts.getD i []))
    omega
   have hres : T.sgn (aav ts) j (dec j s) = T.sgn3 (T.sgn (aav ts) i (dec i (s.take (2 ^ i)))) (T.sgn (aav ts) i (dec i (s.drop (2 ^ i)))) (T.sgn (aav ts) i (dec i (ts.getD i []))) (T.sgn (aav ts) i (dec i (aph ts i s))) := by
    rw [a52 _ (by omega) hij,dn]; rfl
   rw [bcl v3] at hres
   have v1 := T.sgn_cases (aav ts) i (dec i (s.take (2 ^ i)))
   have v2 := T.sgn_cases (aav ts) i (dec i (s.drop (2 ^ i)))
   have v4 := T.sgn_cases (aav ts) i (dec i (aph ts i s))
   have pw := agf s.length (by omega)
   rw [show pwk s.length = i + 1 by rw [hsl]; exact (as2 (by omega)).1,show pwb s.length = true by rw [hsl]; exact (as2 (by omega)).2] at pw
   refine gc pw ?_
   refine ga (show _ = (i : Int) by rw [abe (by omega)]; omega) ?_
   refine gi (hR i (by omega)) ?_
   refine gs (aea (.tmp rfl) (.const _) (by omega) (show _ = ((2 ^ i : Nat) : Int) by rw [acl (by omega),hsl,ab5]) rfl) ?_
   refine gs (aap (.tmp rfl) (.none _) (.some _ (.tmp rfl) (by omega)) T38 rfl T82 rfl (by omega) (by simp only [length_map]; omega) rfl) ?_
   refine gc (by have h9 := k1; rw [<- aji] at h9; exact h9) ?_
   refine gs (aea (.tmp rfl) (.const _) (by omega) (show _ = ((2 ^ i : Nat) : Int) by rw [acl (by omega),hsl,ab5]) rfl) ?_
   refine gs (aap (.tmp rfl) (.some _ (.tmp rfl) (by omega)) (.none _) T38 rfl T82 rfl (by simp only [length_map]; omega) (by omega) rfl) ?_
   refine gc (by have h9 := k2; rw [<- ag2] at h9; exact h9) ?_
   refine gc k3 ?_
   refine ga (apr v2 (.inr v3)) ?_
   refine gD ?_
   refine gC (fun ht57 => ?_) (fun ht57 => ?_)
   ·have e2 := ay5 ht57
    refine gE1 ?_
    rw [hres,if_pos e2]
   ·have e2 := atz ht57
    refine gC (fun ht60 => ?_) (fun ht60 => ?_)
    ·have e3 : T.sgn (aav ts) i (dec i (s.take (2 ^ i))) = 0 := by simpa [aaa] using ht60
     refine gE1 ?_
     rw [hres,if_neg e2,if_pos e3]; rfl
    ·have e3 : ¬ T.sgn (aav ts) i (dec i (s.take (2 ^ i))) = 0 := by simpa [aaa] using ht60
     refine gc (a19 ts m r ht hm R hR i s.length s e (by omega) hsl hsl cs (by omega)) ?_
     refine gc k4 ?_
     refine ga (apr v1 v4) ?_
     refine gD ?_
     refine gE1 ?_
     rw [hres,if_neg e2,if_neg e3]; rfl
theorem api (rs : List (List Rt)) (r : Nat) (h : TR rs r) : FnC prog 129 [agh rs] (i64 (aey rs)) := by
 have hll := h.ll
 have hr := h.le
 refine gF0 func129 ?_
 refine gl ?_
 refine gC (fun ht9 => ?_) (fun ht9 => ?_)
 ·have h5 : 5 < rs.length := by have := ht9; simp only [aaa, decide_eq_true_eq] at this; omega
  refine gE1 ?_
  rw [a02 h5]; rfl
 ·have h5 : rs.length <= 5 := by have := ht9; simp only [aaa, decide_eq_false_iff_not] at this; omega
  refine gl ?_
  refine gL1 [1,11,12] [1] (fun (k : Nat) => [(13,some (i64 k))]) (fun _ => []) (fun k => k <= rs.length /\ ∀ j,j < k -> ayt rs j) (fun k => rs.length - k) 0 ⟨zero_le _,fun j hj => by omega⟩ ?_
  rintro k ⟨hk,hj⟩ K1 hK1
  refine gC (fun ht14 => ?_) (fun ht14 => ?_)
  ·have hin : k < rs.length := by simpa [aaa] using ht14
   obtain ⟨d,hd⟩ := ab9 hin
   have hdm := mem_of_getElem? hd
   have hdl := h.len d hdm
   refine gi (aaf hd) ?_
   refine gl ?_
   refine gs (ag1 (.const _) (.tmp rfl) (by omega) (ajy (by omega)) rfl) ?_
   refine gC (fun ht22 => ?_) (fun ht22 => ?_)
   ·have h1 : d.length ≠ 2 ^ k := by have := ht22; simp only [aaa, bne_iff_ne, ne_eq] at this; omega
    refine gE1 ?_
    rw [azq h5 hd hj h1]; rfl
   ·have h1 : d.length = 2 ^ k := by have := ht22; simp only [aaa, bne_eq_false_iff_eq] at this; omega
    have hnu := anv k (by omega) d (h.ok d hdm) hdl
    refine gc hnu ?_
    refine gC (fun ht27 => ?_) (fun ht27 => ?_)
    ·have h2 := aif ht27
     refine gE1 ?_
     rw [a1o h5 hd hj h1 h2]
    ·have h2 := aie ht27
     have hts := aum (ts := llq rs) (fun j hjk => (hj j hjk).nl) h.rb
     have hq := at3 h2 (h.ok d hdm)
     have hcb : Cb r (lq d):=by have := h.rb.cb k; rw [alk,getD_eq_getElem?_getD,hd] at this; exact this
     have hsg : FnC prog 176 [agh rs, nR d] (i64 (T.sgn (aav (llq rs)) k (dec k (lq d)))) := by
      have h9 := arb ((llq rs).take k) k r hts (by omega) (fun j hjk => by rw [T.sgn_congr j (fun i hi => ajv (show i < k by omega)),ajv hjk]; exact (hj j hjk).2.2) (rs.map nR) (fun j hjk => be0 h.ok (show k <= rs.length by omega) hj hjk) k (lq d) r (le_refl _) hq.2 hcb (bcf (le_refl k) (by have := h.three; omega) hr (by have := an3 k; omega))
      rw [T.sgn_congr k (fun j hjk => ajv hjk)] at h9
      rw [hq.1,ahj]
      rw [<- hq.1]; exact h9
     refine gc hsg ?_
     refine gC (fun ht32 => ?_) (fun ht32 => ?_)
     ·have h3 : T.sgn (aav (llq rs)) k (dec k (lq d)) < 0 := by simpa [aaa] using ht32
      refine gE1 ?_
      rw [azh h5 hd hj h1 h2 h3]; rfl
     ·have h3 : ¬ T.sgn (aav (llq rs)) k (dec k (lq d)) < 0 := by simpa [aaa] using ht32
      refine ga aau ?_
      exact gK1 hK1 (k + 1) ⟨hin,fun j hjk => by rcases lt_or_ge j k with h9 | h9; exact hj j h9; (have : j = k:=by omega); subst this; exact a62 hd h1 h2 h3⟩
  ·have hin : k = rs.length := by have : rs.length <= k := (by simpa [aaa] using ht14); omega
   subst hin
   refine gE1 ?_
   rw [a0u h5 hj]; rfl
theorem afn (rs : List (List Rt)) (r : Nat) (h : TR rs r) (xs : List (List Rt)) (hx : ∀ a ∈ xs, (∀ x ∈ a, x.ok) /\ a.length <= 281474976710656) (hl : xs.length <= 281474976710656) : FnC prog 175 [agh rs, .lst 1 (xs.map nR)] (i64 (abf rs xs)) := by
 refine gF0 func175 ?_
 refine gc (api rs r h) ?_
 refine gC (fun ht12 => ?_) (fun ht12 => ?_)
 ·have h1 := aif ht12
  refine gE1 ?_
  rw [ar8 h1]
 ·have h1 := aie ht12
  have h5 : rs.length <= 5:=by have := (ab0 h h1).1.five; rwa [length_map] at this
  refine gl ?_
  refine gL1 [2,14,15] [2] (fun (i : Nat) => [(16,some (i64 i))]) (fun _ => []) (fun i => i <= xs.length /\ ∀ x ∈ xs.take i,ahb rs.length x = 0) (fun i => xs.length - i) 0 ⟨zero_le _,fun x hx => by simp at hx⟩ ?_
  rintro i ⟨hi,hj⟩ K1 hK1
  refine gC (fun ht17 => ?_) (fun ht17 => ?_)
  ·have hin : i < xs.length := by simpa [aaa] using ht17
   obtain ⟨a,ha⟩ := ab9 hin
   have hok := hx a (mem_of_getElem? ha)
   refine gi (aaf ha) ?_
   refine gl ?_
   refine gc (anv rs.length h5 a hok.1 hok.2) ?_
   refine gC (fun ht26 => ?_) (fun ht26 => ?_)
   ·have h2 := aif ht26
    refine gE1 ?_
    rw [atp h1 ha hj h2]
   ·have h2 := aie ht26
    refine ga aau ?_
    exact gK1 hK1 (i + 1) ⟨hin,fun x hx => by rw [aak ha] at hx; rcases List.mem_append.1 hx with h9 | h9; exact hj x h9; (rw [List.mem_singleton.1 h9]; exact h2)⟩
  ·have hin : i = xs.length := by have : xs.length <= i := (by simpa [aaa] using ht17); omega
   subst hin
   rw [take_length] at hj
   refine gE1 ?_
   rw [amm h1 hj]; rfl
theorem a7h (rs : List (List Rt)) (r : Nat) (h : TR rs r) (a b : List Rt) (e f : Nat) (ha : NR a e) (hb : NR b f) (he : e + f <= lm rs.length) :
  FnC prog 131 [agh rs,nR a,nR b] (.tup [nA (if abf rs [a,b] = 0 then sh rs.length (T.add rs.length (dec rs.length (lq a)) (dec rs.length (lq b))) else []),i64 (abf rs [a,b])]) := by
 have hlm := amr rs.length
 refine gF0 func131 ?_
 refine gc (afn rs r h [a,b] (aom ha hb) (by simp)) ?_
 refine gC (fun ht15 => ?_) (fun ht15 => ?_) (st2 := (77777,0))
 ·have h1 := aif ht15
  refine gR ?_
  exact ad7 (by rw [if_neg h1]; exact Sub.tup (.cons (.nil _ _ _) (.cons (.refl _) .nil)))
 ·have h1 := aie ht15
  obtain ⟨h2,h3⟩ := agu h1
  obtain ⟨tw,e0⟩ := ab0 h h2
  obtain ⟨e1,na⟩ := ha.num (h3 a (by simp))
  obtain ⟨e2,nb⟩ := hb.num (h3 b (by simp))
  have h5 : rs.length <= 5:=by have := tw.five; rwa [length_map] at this
  have hla := na.len5 h5
  have hlb := nb.len5 h5
  have qa : ∀ q ∈ lq a,Qs q := fun q hq => ha.cb.qs (by omega) hq
  have qb : ∀ q ∈ lq b,Qs q := fun q hq => hb.cb.qs (by omega) hq
  have qp : ∀ q ∈ ac1 (lq a) (lq b),Qs q := fun q hq => (ha.cb.plus hb.cb).qs (by omega) hq
  have np := ai9 na nb
  refine gW (Wk.of (sl := [(1,some (nA (lq a))),(2,some (nA (lq b))),(3,some (.ptr 3 0)),(8,some (i64 (abf rs [a,b])))]) (hp := [(3,some (.box [.lst 1 (rs.map nR)]))]) (.cons rfl (Sub.of e1) (.cons rfl (Sub.of e2) (.k (.k .nil)))) (.cons rfl (.refl _) .nil)) ?_
  refine gc (age _ _ qa qb (by omega) (by omega)) ?_
  refine gc (afb _ h5 np) ?_
  refine gE2 ?_
  rw [if_pos h1,h1,ad3]; rfl
theorem a6b (rs : List (List Rt)) (r : Nat) (h : TR rs r) (a b : List Rt) (e f : Nat) (ha : NR a e) (hb : NR b f) (he : e + f <= lm rs.length) :
  FnC prog 179 [agh rs,nR a,nR b] (.tup [nA (if abf rs [a,b] = 0 then sh rs.length (T.add rs.length (dec rs.length (lq a)) (T.neg rs.length (dec rs.length (lq b)))) else []),i64 (abf rs [a,b])]) := by
 have hlm := amr rs.length
 refine gF0 func179 ?_
 refine gc (afn rs r h [a,b] (aom ha hb) (by simp)) ?_
 refine gC (fun ht15 => ?_) (fun ht15 => ?_) (st2 := (77777,0))
 ·have h1 := aif ht15
  refine gR ?_
  exact ad7 (by rw [if_neg h1]; exact Sub.tup (.cons (.nil _ _ _) (.cons (.refl _) .nil)))
 ·have h1 := aie ht15
  obtain ⟨h2,h3⟩ := agu h1
  obtain ⟨tw,e0⟩ := ab0 h h2
  obtain ⟨e1,na⟩ := ha.num (h3 a (by simp))
  obtain ⟨e2,nb⟩ := hb.num (h3 b (by simp))
  have h5 : rs.length <= 5:=by have := tw.five; rwa [length_map] at this
  have hla := na.len5 h5
  have hlb := nb.len5 h5
  have qa : ∀ q ∈ lq a,Qs q := fun q hq => ha.cb.qs (by omega) hq
  have qb : ∀ q ∈ lq b,Qs q := fun q hq => hb.cb.qs (by omega) hq
  have qm : ∀ q ∈ acg (lq b),Qs q := fun q hq => hb.cb.minus.qs (by omega) hq
  have qp : ∀ q ∈ ac1 (lq a) (acg (lq b)),Qs q := fun q hq => (ha.cb.plus hb.cb.minus).qs (by omega) hq
  have np := ai9 na (ah6 nb)
  refine gW (Wk.of (sl := [(1,some (nA (lq a))),(2,some (nA (lq b))),(3,some (.ptr 3 0)),(8,some (i64 (abf rs [a,b])))]) (hp := [(3,some (.box [.lst 1 (rs.map nR)]))]) (.cons rfl (Sub.of e1) (.cons rfl (Sub.of e2) (.k (.k .nil)))) (.cons rfl (.refl _) .nil)) ?_
  refine gc (am2 _ qb (by omega)) ?_
  refine gc (age _ _ qa qm (by omega) (by rw [adc]; omega)) ?_
  refine gc (afb _ h5 np) ?_
  refine gE2 ?_
  rw [if_pos h1,h1,ad3,afx]; rfl
theorem a64 (rs : List (List Rt)) (r : Nat) (h : TR rs r) (a b : List Rt) (e f : Nat) (ha : NR a e) (hb : NR b f) (he : e + f <= lm rs.length) :
  FnC prog 180 [agh rs,nR a,nR b] (.tup [nA (if abf rs [a,b] = 0 then sh rs.length (T.mul (aav (llq rs)) rs.length (dec rs.length (lq a)) (dec rs.length (lq b))) else []),i64 (abf rs [a,b])]) := by
 have hr := h.le
 have hlm := amr rs.length
 refine gF0 func180 ?_
 refine gc (afn rs r h [a,b] (aom ha hb) (by simp)) ?_
 refine gC (fun ht15 => ?_) (fun ht15 => ?_) (st2 := (77777,0))
 ·have h1 := aif ht15
  refine gR ?_
  exact ad7 (by rw [if_neg h1]; exact Sub.tup (.cons (.nil _ _ _) (.cons (.refl _) .nil)))
 ·have h1 := aie ht15
  obtain ⟨h2,h3⟩ := agu h1
  obtain ⟨tw,e0⟩ := ab0 h h2
  obtain ⟨e1,na⟩ := ha.num (h3 a (by simp))
  obtain ⟨e2,nb⟩ := hb.num (h3 b (by simp))
  have hlen : (llq rs).length = rs.length := length_map _
  have h5 : rs.length <= 5:=by have := tw.five; omega
  have hla := na.len5 h5
  have hlb := nb.len5 h5
  have htw := tw.ok
  rw [hlen] at htw
  have hE := a8t r h5
  have np := af1 h5 htw (k := rs.length) (le_refl rs.length) (le_refl _) na nb ha.cb hb.cb
  have hti := aib (llq rs) rs.length r htw h5 ((llq rs).map nA) (fun j hj => avj (by omega)) rs.length rs.length _ _ e f (le_refl _) (le_refl _) na nb ha.cb hb.cb (by omega)
  refine gW (Wk.of (sl := [(1,some (nA (lq a))),(2,some (nA (lq b))),(3,some (.ptr 3 0)),(8,some (i64 (abf rs [a,b])))]) (hp := [(3,some (.box [.lst 1 ((llq rs).map nA)]))]) (.cons rfl (Sub.of e1) (.cons rfl (Sub.of e2) (.k (.k .nil)))) (.cons rfl (BlkSub.boxL (.cons (.of (aqt e0)) .nil) rfl) .nil)) ?_
  refine gc hti ?_
  refine gc (afb _ h5 np.1) ?_
  refine gE2 ?_
  rw [if_pos h1,h1,np.2.1]; rfl
theorem a5v (rs : List (List Rt)) (r : Nat) (h : TR rs r) (a b : List Rt) (e f : Nat) (ha : NR a e) (hb : NR b f) (he : e + f + 1 <= lm rs.length) :
  FnC prog 79 [agh rs,nR a,nR b] (.tup [i64 (if abf rs [a,b] = 0 then T.sgn (aav (llq rs)) rs.length (T.add rs.length (dec rs.length (lq a)) (T.neg rs.length (dec rs.length (lq b)))) else 0),i64 (abf rs [a,b])]) := by
 have hr := h.le
 have hlm := amr rs.length
 refine gF0 func79 ?_
 refine gc (afn rs r h [a,b] (aom ha hb) (by simp)) ?_
 refine gC (fun ht15 => ?_) (fun ht15 => ?_) (st2 := (77777,0))
 ·have h1 := aif ht15
  refine gE2 ?_
  rw [if_neg h1]; rfl
 ·have h1 := aie ht15
  obtain ⟨h2,h3⟩ := agu h1
  obtain ⟨tw,e0⟩ := ab0 h h2
  obtain ⟨e1,na⟩ := ha.num (h3 a (by simp))
  obtain ⟨e2,nb⟩ := hb.num (h3 b (by simp))
  have hlen : (llq rs).length = rs.length := length_map _
  have h5 : rs.length <= 5:=by have := tw.five; omega
  have hla := na.len5 h5
  have hlb := nb.len5 h5
  have htw := tw.ok
  rw [hlen] at htw
  have qa : ∀ q ∈ lq a,Qs q := fun q hq => ha.cb.qs (by omega) hq
  have qb : ∀ q ∈ lq b,Qs q := fun q hq => hb.cb.qs (by omega) hq
  have qm : ∀ q ∈ acg (lq b),Qs q := fun q hq => hb.cb.minus.qs (by omega) hq
  have np := ai9 na (ah6 nb)
  have hsg := arb (llq rs) rs.length r htw h5 (fun j hj => tw.pos j (by omega)) ((llq rs).map nA) (fun j hj => avj (by omega)) rs.length _ _ (le_refl _) np (ha.cb.plus hb.cb.minus) (bcf (le_refl rs.length) (by have := tw.three; omega) hr (by omega))
  refine gW (Wk.of (sl := [(1,some (nA (lq a))),(2,some (nA (lq b))),(3,some (.ptr 3 0)),(8,some (i64 (abf rs [a,b])))]) (hp := [(3,some (.box [.lst 1 ((llq rs).map nA)]))]) (.cons rfl (Sub.of e1) (.cons rfl (Sub.of e2) (.k (.k .nil)))) (.cons rfl (BlkSub.boxL (.cons (.of (aqt e0)) .nil) rfl) .nil)) ?_
  refine gc (am2 _ qb (by omega)) ?_
  refine gc (age _ _ qa qm (by omega) (by rw [adc]; omega)) ?_
  refine gc hsg ?_
  refine gD ?_
  refine gE2 ?_
  rw [if_pos h1,h1,ad3,afx]; rfl
theorem a3s (rs : List (List Rt)) (r : Nat) (h : TR rs r) (a : List Rt) (e : Nat) (ha : NR a e) (he : e <= lm rs.length) :
  FnC prog 130 [agh rs,nR a] (.tup [nA (if abf rs [a] = 0 then aax (lq a) (2 ^ rs.length) else []),i64 (abf rs [a])]) := by
 have hlm := amr rs.length
 refine gF0 func130 ?_
 refine gc (afn rs r h [a] (fun x hx => by rw [List.mem_singleton.1 hx]; exact ⟨ha.ok,ha.len⟩) (by simp)) ?_
 refine gC (fun ht12 => ?_) (fun ht12 => ?_) (st2 := (77777,0))
 ·have h1 := aif ht12
  refine gR ?_
  exact ad7 (by rw [if_neg h1]; exact Sub.tup (.cons (.nil _ _ _) (.cons (.refl _) .nil)))
 ·have h1 := aie ht12
  obtain ⟨h2,h3⟩ := agu h1
  obtain ⟨tw,e0⟩ := ab0 h h2
  obtain ⟨e1,na⟩ := ha.num (h3 a (by simp))
  have hlen : (llq rs).length = rs.length := length_map _
  have h5 : rs.length <= 5:=by have := tw.five; omega
  have hp5 : 2 ^ rs.length <= 32 := abi (b := 5) h5
  refine gW (Wk.of (sl := [(1,some (nA (lq a))),(2,some (.ptr 2 0)),(6,some (i64 (abf rs [a])))]) (hp := [(2,some (.box [.lst 1 (rs.map nR)]))]) (.cons rfl (Sub.of e1) (.k (.k .nil))) (.cons rfl (.refl _) .nil)) ?_
  refine gl ?_
  refine gs (ag1 (.const _) (.tmp rfl) (by omega) (ajy (by omega)) rfl) ?_
  refine gc (agc _ _ na.le (by omega)) ?_
  refine gE2 ?_
  rw [if_pos h1,h1]; rfl
theorem bbu (x : Rt) (hx : x.ok) (hs : Qs x.q) : FnC prog 137 [x.av] (nA (sh 0 (x.q : Rat))) := by
 have hadd := aps x (rt 0) hx Qs.zero.ok
 rw [bj1] at hadd
 refine gF0 func137 ?_
 refine gc (am0 x hx) ?_
 refine gC (fun ht5 => ?_) (fun ht5 => ?_)
 ·have h0 : x.q = 0 := alo (by simpa [aaa] using ht5)
  refine gR ?_
  exact aeo (by rw [h0]; exact Sub.nil _ _ _)
 ·have h0 : x.q ≠ 0 := fun h => by rw [h] at ht5; cases ht5
  refine gc (Con.subA (.cons (.refl _) (.cons ava .nil)) hadd) ?_
  refine gE1 ?_
  have : sh 0 (x.q : Rat) = [x.q] := if_neg h0
  rw [this]; rfl
end Go.Lw
namespace Go.Lw
open Go.Proofs
theorem bkw {p q : Rat} (hp : Qs p) (hq : Qs q) : FnC prog 206 [qA p, qA q] (qA (p + q)) := by
 have h := afi (rt p) (rt q) hp.ok hq.ok
 rw [ah0,ah0] at h
 exact h
theorem bci {p q : Rat} (hp : Qs p) (hq : Qs q) : FnC prog 281 [qA p, qA q] (qA (p - q)) := by
 have h := aq9 (rt p) (rt q) hp.ok hq.ok
 rw [ah0,ah0] at h
 exact h
theorem a7o {p q : Rat} (hp : Qs p) (hq : Qs q) : FnC prog 288 [qA p, qA q] (qA (p * q)) := by
 have h := aj6 (rt p) (rt q) hp.ok hq.ok
 rw [ah0,ah0] at h
 exact h
theorem bmn {p q : Rat} (hp : Qs p) (hq : Qs q) : FnC prog 431 [qA p, qA q] (.tup [qA (p / q), ajw (if q = 0 then 8 else 0)]) := by
 have h := aq1 (rt p) (rt q) hp.ok hq.ok
 rw [ah0,ah0] at h
 exact h
theorem bmw {p : Rat} (hp : Qs p) : FnC prog 111 [qA p] (qA (-p)) := by
 have h := ahd (rt p) hp.ok
 rw [ah0] at h
 exact h
theorem bk1 {p : Rat} (hp : Qs p) : FnC prog 313 [qA p] (i64 (aj2 p)) := by
 have h := ags (rt p) hp.ok
 rw [ah0] at h
 exact h
end Go.Lw
namespace Go.Lw
open Go.Proofs
theorem a9k {ts : List (List Rat)} {r e f : Nat} (tw : Tw ts r) {a b : List Rat} (ha : Nm ts.length e a) (hb : Nm ts.length f b) (he : e + f <= lm ts.length) :
  FnC prog 231 [adv ts,nA a,nA b] (.tup [nA (sh ts.length (T.add ts.length (dec ts.length a) (dec ts.length b))),.v .nilIface]) := by
 have h := axz (ts.map (List.map rt)) r tw.tr (a.map rt) (b.map rt) e f (ha.rt (by omega)) (hb.rt (by omega)) (by rw [length_map]; exact he)
 have h0 : abf (ts.map (List.map rt)) [a.map rt,b.map rt] = 0 := akl tw ha hb
 rw [h0,if_pos rfl,ag6,ahj,ahj,aiz,aiz,length_map] at h
 exact h
theorem a4u {ts : List (List Rat)} {r e f : Nat} (tw : Tw ts r) {a b : List Rat} (ha : Nm ts.length e a) (hb : Nm ts.length f b) (he : e + f <= lm ts.length) :
  FnC prog 163 [adv ts,nA a,nA b] (.tup [nA (sh ts.length (T.add ts.length (dec ts.length a) (T.neg ts.length (dec ts.length b)))),.v .nilIface]) := by
 have h := aye (ts.map (List.map rt)) r tw.tr (a.map rt) (b.map rt) e f (ha.rt (by omega)) (hb.rt (by omega)) (by rw [length_map]; exact he)
 have h0 : abf (ts.map (List.map rt)) [a.map rt,b.map rt] = 0 := akl tw ha hb
 rw [h0,if_pos rfl,ag6,ahj,ahj,aiz,aiz,length_map] at h
 exact h
theorem a6u {ts : List (List Rat)} {r e f : Nat} (tw : Tw ts r) {a b : List Rat} (ha : Nm ts.length e a) (hb : Nm ts.length f b) (he : e + f <= lm ts.length) :
  FnC prog 164 [adv ts,nA a,nA b] (.tup [nA (sh ts.length (T.mul (aav ts) ts.length (dec ts.length a) (dec ts.length b))),.v .nilIface]) := by
 have h := ay4 (ts.map (List.map rt)) r tw.tr (a.map rt) (b.map rt) e f (ha.rt (by omega)) (hb.rt (by omega)) (by rw [length_map]; exact he)
 have h0 : abf (ts.map (List.map rt)) [a.map rt,b.map rt] = 0 := akl tw ha hb
 rw [h0,if_pos rfl,ag6,ahj,ahj,ard,aiz,aiz,length_map] at h
 exact h
theorem a72 {ts : List (List Rat)} {r e : Nat} (tw : Tw ts r) {a : List Rat} (ha : Nm ts.length e a) (he : e <= lm ts.length) :
  FnC prog 205 [adv ts,nA a] (.tup [i64 (T.sgn (aav ts) ts.length (dec ts.length a)),.v .nilIface]) := by
 have h := avt (ts.map (List.map rt)) r tw.tr (a.map rt) e (ha.rt he) (by rw [length_map]; exact he)
 have h0 : abf (ts.map (List.map rt)) [a.map rt] = 0 := a86 tw ha
 rw [h0,if_pos rfl,ag6,ahj,ard,aiz,length_map] at h
 exact h
theorem blr {ts : List (List Rat)} {r e f : Nat} (tw : Tw ts r) {a b : List Rat} (ha : Nm ts.length e a) (hb : Nm ts.length f b) (he : e + f <= lm ts.length) :
  FnC prog 131 [adv ts,nA a,nA b] (.tup [nA (sh ts.length (T.add ts.length (dec ts.length a) (dec ts.length b))),i64 0]) := by
 have h := a7h (ts.map (List.map rt)) r tw.tr (a.map rt) (b.map rt) e f (ha.rt (by omega)) (hb.rt (by omega)) (by rw [length_map]; exact he)
 have h0 : abf (ts.map (List.map rt)) [a.map rt,b.map rt] = 0 := akl tw ha hb
 rw [h0,if_pos rfl,ag6,ahj,ahj,aiz,aiz,length_map] at h
 exact h
theorem bkt {ts : List (List Rat)} {r e f : Nat} (tw : Tw ts r) {a b : List Rat} (ha : Nm ts.length e a) (hb : Nm ts.length f b) (he : e + f <= lm ts.length) :
  FnC prog 179 [adv ts,nA a,nA b] (.tup [nA (sh ts.length (T.add ts.length (dec ts.length a) (T.neg ts.length (dec ts.length b)))),i64 0]) := by
 have h := a6b (ts.map (List.map rt)) r tw.tr (a.map rt) (b.map rt) e f (ha.rt (by omega)) (hb.rt (by omega)) (by rw [length_map]; exact he)
 have h0 : abf (ts.map (List.map rt)) [a.map rt,b.map rt] = 0 := akl tw ha hb
 rw [h0,if_pos rfl,ag6,ahj,ahj,aiz,aiz,length_map] at h
 exact h
theorem biw {ts : List (List Rat)} {r e f : Nat} (tw : Tw ts r) {a b : List Rat} (ha : Nm ts.length e a) (hb : Nm ts.length f b) (he : e + f <= lm ts.length) :
  FnC prog 180 [adv ts,nA a,nA b] (.tup [nA (sh ts.length (T.mul (aav ts) ts.length (dec ts.length a) (dec ts.length b))),i64 0]) := by
 have h := a64 (ts.map (List.map rt)) r tw.tr (a.map rt) (b.map rt) e f (ha.rt (by omega)) (hb.rt (by omega)) (by rw [length_map]; exact he)
 have h0 : abf (ts.map (List.map rt)) [a.map rt,b.map rt] = 0 := akl tw ha hb
 rw [h0,if_pos rfl,ag6,ahj,ahj,ard,aiz,aiz,length_map] at h
 exact h
theorem bkr {ts : List (List Rat)} {r e f : Nat} (tw : Tw ts r) {a b : List Rat} (ha : Nm ts.length e a) (hb : Nm ts.length f b) (he : e + f + 1 <= lm ts.length) :
  FnC prog 79 [adv ts,nA a,nA b] (.tup [i64 (T.sgn (aav ts) ts.length (T.add ts.length (dec ts.length a) (T.neg ts.length (dec ts.length b)))),i64 0]) := by
 have h := a5v (ts.map (List.map rt)) r tw.tr (a.map rt) (b.map rt) e f (ha.rt (by omega)) (hb.rt (by omega)) (by rw [length_map]; exact he)
 have h0 : abf (ts.map (List.map rt)) [a.map rt,b.map rt] = 0 := akl tw ha hb
 rw [h0,if_pos rfl,ag6,ahj,ahj,ard,aiz,aiz,length_map] at h
 exact h
theorem a5e {ts : List (List Rat)} {r e : Nat} (tw : Tw ts r) {a : List Rat} (ha : Nm ts.length e a) (he : e <= lm ts.length) :
  FnC prog 148 [adv ts,nA a] (.tup [nA (sh ts.length (T.neg ts.length (dec ts.length a))),.v .nilIface]) := by
 have h := apn (ts.map (List.map rt)) r tw.tr (a.map rt) e (ha.rt he) (by rw [length_map]; exact he)
 have h0 : abf (ts.map (List.map rt)) [a.map rt] = 0 := a86 tw ha
 rw [h0,if_pos rfl,ag6,ahj,aiz,length_map] at h
 exact h
theorem a0c {ts : List (List Rat)} {r : Nat} (tw : Tw ts r) : FnC prog 145 [adv ts] (.v .nilIface) := by
 have h := af7 (ts.map (List.map rt)) r tw.tr
 rw [tw.chk,ag6] at h
 exact h
theorem ayk {q : Rat} (h : Qs q) : FnC prog 149 [qA q] (nA (sh 0 (q : Rat))) := by
 have h1 := a2w (rt q) h.ok (by rw [ah0]; exact h)
 rw [ah0] at h1
 exact h1
theorem bar {q : Rat} (h : Qs q) : FnC prog 137 [qA q] (nA (sh 0 (q : Rat))) := by
 have h1 := bbu (rt q) h.ok (by rw [ah0]; exact h)
 rw [ah0] at h1
 exact h1
theorem aii {ts : List (List Rat)} {r e : Nat} (tw : Tw ts r) (ls : List (List Rat)) (hl : ∀ l ∈ ls, Nm ts.length e l) (he : e <= lm ts.length) (hn : ls.length <= 1000) : FnC prog 167 [adv ts, .lst 1 (ls.map nA)] (.v .nilIface) := by
 refine gF0 func167 ?_
 refine gc (a0c tw) ?_
 refine gC (fun ht13 => ?_) (fun ht13 => ?_) (st1 := (3,0))
 ·cases ht13
 ·refine gl ?_
  refine gL1 [2,15,16] [2] (fun (i : Nat) => [(17,some (i64 i))]) (fun _ => []) (fun i => i <= ls.length) (fun i => ls.length - i) 0 (zero_le _) ?_
  rintro i hi K1 hK1
  refine gC (fun ht18 => ?_) (fun ht18 => ?_)
  ·have hin : i < ls.length := by simpa [aaa] using ht18
   obtain ⟨l,hll⟩ := ab9 hin
   have hok := hl l (mem_of_getElem? hll)
   refine gi (aaf hll) ?_
   refine gc (a5e tw hok he) ?_
   refine gC (fun ht28 => ?_) (fun ht28 => ?_) (st1 := (9,0))
   ·cases ht28
   ·refine ga aau ?_
    exact gK1 hK1 (i + 1) hin
  ·have hin : i = ls.length := by have : ls.length <= i := (by simpa [aaa] using ht18); omega
   refine gE1 ?_
   first | rfl | (simp; done)
theorem ac9 {ts : List (List Rat)} {r e : Nat} (tw : Tw ts r) (ps : List (List Rat × List Rat)) (hl : ∀ p ∈ ps, Nm ts.length e p.1 /\ Nm ts.length e p.2) (he : e <= lm ts.length) (hn : ps.length <= 500) : FnC prog 158 [adv ts, .lst 2 (ps.map fun p => ptA p.1 p.2)] (.v .nilIface) := by
 refine gF0 func158 ?_
 refine gl ?_
 refine gW (Wk.virt 900 1 rfl) ?_
 refine gL1 [2,8,9] [2] (fun (i : Nat) => [(5,some (.ms 900 1 0 (2 * i))),(10,some (i64 i))]) (fun i => [(900,some (.row 1 ((ald (ps.take i)).map nA)))]) (fun i => i <= ps.length) (fun i => ps.length - i) 0 (zero_le _) ?_
 rintro i hi K1 hK1
 refine gC (fun ht11 => ?_) (fun ht11 => ?_) (st2 := (7,0))
 ·have hin : i < ps.length := by simpa [aaa] using ht11
  obtain ⟨p,hp⟩ := ab9 hin
  have hfl : (ald (ps.take i)).length = 2 * i:=by rw [alr,length_take]; omega
  refine gi (aaf hp) ?_
  refine gs (abt (.tmp rfl) rfl (by rw [length_map,hfl]) (.tmp rfl) T27 rfl T38 rfl rfl (by simp; omega) rfl rfl) ?_ (6,0)
  refine gW (Wk.of (sl := [(2,some (.ptr 2 0)),(5,some (.ms 20 1 0 (2 * i + 2))),(8,some (.lst 2 (ps.map fun p => ptA p.1 p.2))),(9,some (i64 ps.length)),(10,some (i64 i))]) (hp := [(2,some (.box [.lst 1 (ts.map nA)])),(20,some (.row 1 ((ald (ps.take (i + 1))).map nA)))]) abu (.cons rfl (.refl _) (.cons rfl (BlkSub.of (by rw [aak hp,avf,map_append]; rfl)) .nil))) ?_ (6,0)
  refine gW (Wk.rekey (k := 20) (d := 900) rfl rfl) ?_
  refine ga aau ?_
  exact gK1 hK1 (i + 1) hin
 ·have hin : i = ps.length := by have : ps.length <= i := (by simpa [aaa] using ht11); omega
  subst hin
  refine gW ((Wk.freeze (k := 900) rfl).trans <| Wk.of (sl := [(2,some (.ptr 2 0)),(5,some (.lst 1 ((ald ps).map nA)))]) (hp := [(2,some (.box [.lst 1 (ts.map nA)]))]) (.k (.cons rfl (Sub.of (by rw [ab3 (by rw [length_map,alr,length_take]; omega),take_length])) .nil)) (.cons rfl (.refl _) .nil)) ?_
  refine gc (aii tw (ald ps) (av9 hl) he (by rw [alr]; omega)) ?_
  refine gE1 ?_
  first | rfl | (simp; done)
theorem am8 (R : List AV) (a : List Rat) : Con prog 365 [.ptr 1000 0, nA a, .v .nilIface] [(1000, some (.box [.lst 1 R, .v .nilIface]))] (nA a) [(1000, some (.box [.lst 1 R, .v .nilIface]))] := by
 refine gF func365 (fun k z h => abz h) ?_
 refine gC (fun ht11 => ?_) (fun ht11 => ?_) (st2 := (77777,0))
 ·refine gR ?_
  exact Fin.keep (ade rfl)
 ·cases ht11
theorem ak9 {ts : List (List Rat)} {r e f : Nat} (tw : Tw ts r) {a b : List Rat} (ha : Nm ts.length e a) (hb : Nm ts.length f b) (he : e + f <= lm ts.length) :
  Con prog 287 [.ptr 1000 0,nA a,nA b] [(1000,some (aw6 ts))] (nA (sh ts.length (T.add ts.length (dec ts.length a) (dec ts.length b)))) [(1000,some (aw6 ts))] := by
 refine gF func287 (fun k z h => abz h) ?_
 refine gc (a9k tw ha hb he) ?_
 refine gt (aad (am8 _ _) (.cons (.tmp rfl) (.cons (.tmp rfl) (.cons (.tmp rfl) .nil))) (by first | exact hH0 | exact hH1 rfl | exact hH2 rfl rfl) rfl rfl) ?_
 refine gR ?_
 exact Fin.keep (ade rfl)
theorem ak7 {ts : List (List Rat)} {r e f : Nat} (tw : Tw ts r) {a b : List Rat} (ha : Nm ts.length e a) (hb : Nm ts.length f b) (he : e + f <= lm ts.length) :
  Con prog 282 [.ptr 1000 0,nA a,nA b] [(1000,some (aw6 ts))] (nA (sh ts.length (T.add ts.length (dec ts.length a) (T.neg ts.length (dec ts.length b))))) [(1000,some (aw6 ts))] := by
 refine gF func282 (fun k z h => abz h) ?_
 refine gc (a4u tw ha hb he) ?_
 refine gt (aad (am8 _ _) (.cons (.tmp rfl) (.cons (.tmp rfl) (.cons (.tmp rfl) .nil))) (by first | exact hH0 | exact hH1 rfl | exact hH2 rfl rfl) rfl rfl) ?_
 refine gR ?_
 exact Fin.keep (ade rfl)
theorem afz {ts : List (List Rat)} {r e f : Nat} (tw : Tw ts r) {a b : List Rat} (ha : Nm ts.length e a) (hb : Nm ts.length f b) (he : e + f <= lm ts.length) :
  Con prog 284 [.ptr 1000 0,nA a,nA b] [(1000,some (aw6 ts))] (nA (sh ts.length (T.mul (aav ts) ts.length (dec ts.length a) (dec ts.length b)))) [(1000,some (aw6 ts))] := by
 refine gF func284 (fun k z h => abz h) ?_
 refine gc (a6u tw ha hb he) ?_
 refine gt (aad (am8 _ _) (.cons (.tmp rfl) (.cons (.tmp rfl) (.cons (.tmp rfl) .nil))) (by first | exact hH0 | exact hH1 rfl | exact hH2 rfl rfl) rfl rfl) ?_
 refine gR ?_
 exact Fin.keep (ade rfl)
theorem avm {ts : List (List Rat)} {r e f : Nat} (tw : Tw ts r) {a b c d : List Rat} (ha : Nm ts.length e a) (hb : Nm ts.length e b) (hc : Nm ts.length f c) (hd : Nm ts.length f d) (he : 2 * (e + f + kB r ts.length) <= lm ts.length) :
  Con prog 165 [.ptr 1000 0,ptA a b,ptA c d] [(1000,some (aw6 ts))] (nA (sh ts.length (bho ts (dec ts.length a) (dec ts.length b) (dec ts.length c) (dec ts.length d)))) [(1000,some (aw6 ts))] := by
 refine gF func165 (fun k z h => abz h) ?_
 refine gt (aad (afz tw ha hc (by omega)) (.cons (.tmp rfl) (.cons (.tmp rfl) (.cons (.tmp rfl) .nil))) (by first | exact hH0 | exact hH1 rfl | exact hH2 rfl rfl) rfl rfl) ?_
 refine gt (aad (afz tw hb hd (by omega)) (.cons (.tmp rfl) (.cons (.tmp rfl) (.cons (.tmp rfl) .nil))) (by first | exact hH0 | exact hH1 rfl | exact hH2 rfl rfl) rfl rfl) ?_
 refine gt (aad (awv ▸ ak9 tw (ha.mul tw rfl hc) (hb.mul tw rfl hd) (by omega)) (.cons (.tmp rfl) (.cons (.tmp rfl) (.cons (.tmp rfl) .nil))) (by first | exact hH0 | exact hH1 rfl | exact hH2 rfl rfl) rfl rfl) ?_
 refine gD ?_
 refine gR ?_
 exact Fin.keep (ade rfl)
theorem axw {ts : List (List Rat)} {r e f : Nat} (tw : Tw ts r) {a b c d : List Rat} (ha : Nm ts.length e a) (hb : Nm ts.length e b) (hc : Nm ts.length f c) (hd : Nm ts.length f d) (he : 2 * (e + f + kB r ts.length) <= lm ts.length) :
  Con prog 162 [.ptr 1000 0,ptA a b,ptA c d] [(1000,some (aw6 ts))] (nA (sh ts.length (ary ts (dec ts.length a) (dec ts.length b) (dec ts.length c) (dec ts.length d)))) [(1000,some (aw6 ts))] := by
 refine gF func162 (fun k z h => abz h) ?_
 refine gt (aad (afz tw ha hd (by omega)) (.cons (.tmp rfl) (.cons (.tmp rfl) (.cons (.tmp rfl) .nil))) (by first | exact hH0 | exact hH1 rfl | exact hH2 rfl rfl) rfl rfl) ?_
 refine gt (aad (afz tw hb hc (by omega)) (.cons (.tmp rfl) (.cons (.tmp rfl) (.cons (.tmp rfl) .nil))) (by first | exact hH0 | exact hH1 rfl | exact hH2 rfl rfl) rfl rfl) ?_
 refine gt (aad (al6 ▸ ak7 tw (ha.mul tw rfl hd) (hb.mul tw rfl hc) (by omega)) (.cons (.tmp rfl) (.cons (.tmp rfl) (.cons (.tmp rfl) .nil))) (by first | exact hH0 | exact hH1 rfl | exact hH2 rfl rfl) rfl rfl) ?_
 refine gD ?_
 refine gR ?_
 exact Fin.keep (ade rfl)
end Go.Lw
namespace Go.Lw
open Go.Proofs
theorem arl {ts : List (List Rat)} {r e : Nat} (tw : Tw ts r) {a b c d : List Rat} (ha : Nm ts.length e a) (hb : Nm ts.length e b) (hc : Nm ts.length e c) (hd : Nm ts.length e d) (he : 2 * e <= lm ts.length) :
  Con prog 160 [.ptr 1000 0,ptA a b,ptA c d] [(1000,some (aw6 ts))] (ptA (sh ts.length (subT ts (dec ts.length a) (dec ts.length c))) (sh ts.length (subT ts (dec ts.length b) (dec ts.length d)))) [(1000,some (aw6 ts))] := by
 refine gF func160 (fun k z h => abz h) ?_
 refine gt (aad (ak7 tw ha hc (by omega)) (.cons (.tmp rfl) (.cons (.tmp rfl) (.cons (.tmp rfl) .nil))) (by first | exact hH0 | exact hH1 rfl | exact hH2 rfl rfl) rfl rfl) ?_
 refine gt (aad (ak7 tw hb hd (by omega)) (.cons (.tmp rfl) (.cons (.tmp rfl) (.cons (.tmp rfl) .nil))) (by first | exact hH0 | exact hH1 rfl | exact hH2 rfl rfl) rfl rfl) ?_
 refine gD ?_
 refine gR ?_
 exact Fin.keep (ade rfl)
theorem auj (R : List AV) (a : List Rat) : Con prog 283 [.ptr 1000 0, nA a] [(1000, some (.box [.lst 1 R, .v .nilIface]))] (.tup [nA a, .v .nilIface]) [(1000, some (.box [.lst 1 R, .v .nilIface]))] := by
 refine gF func283 (fun k z h => abz h) ?_
 refine gC (fun ht10 => ?_) (fun ht10 => ?_) (st1 := (2,0))
 ·cases ht10
 ·refine gR ?_
  show Fin _ (AV.tup [nA a,.v .nilIface]) _ _
  exact Fin.keep (ade rfl)
theorem akh (R : List AV) (a b : List Rat) : Con prog 159 [.ptr 1000 0, ptA a b] [(1000, some (.box [.lst 1 R, .v .nilIface]))] (.tup [ptA a b, .v .nilIface]) [(1000, some (.box [.lst 1 R, .v .nilIface]))] := by
 refine gF func159 (fun k z h => abz h) ?_
 refine gC (fun ht10 => ?_) (fun ht10 => ?_) (st1 := (2,0))
 ·cases ht10
 ·refine gR ?_
  show Fin _ (AV.tup [ptA a b,.v .nilIface]) _ _
  exact Fin.keep (ade rfl)
theorem ai6 {ts : List (List Rat)} {r e : Nat} (tw : Tw ts r) {a b c d : List Rat} (ha : Nm ts.length e a) (hb : Nm ts.length e b) (hc : Nm ts.length e c) (hd : Nm ts.length e d) (he : e <= lm ts.length) (f : FuncId) (v : List Rat)
  (hf : Con prog f [.ptr 1000 0,ptA a b,ptA c d] [(1000,some (aw6 ts))] (nA v) [(1000,some (aw6 ts))]) :
  FnC prog 161 [adv ts,ptA a b,ptA c d,.fn f []] (.tup [nA v,.v .nilIface]) := by
 refine gF0 func161 ?_
 refine gc (ac9 (e := e) tw [(a,b),(c,d)] (by simp only [mem_cons,not_mem_nil,or_false]; rintro p (rfl | rfl); exact ⟨ha,hb⟩; exact ⟨hc,hd⟩) he (by simp)) ?_
 refine gC (fun ht18 => ?_) (fun ht18 => ?_) (st1 := (3,0))
 ·cases ht18
 ·refine gs (a9d (.tmp rfl) (show Con prog f ([.ptr 22 0, ptA a b, ptA c d] ++ []) [(22, some (aw6 ts))] (nA v) [(22, some (aw6 ts))] from Con.rekeyB 22 rfl rfl rfl rfl hf) (.cons (.tmp rfl) (.cons (.tmp rfl) (.cons (.tmp rfl) .nil))) (by first | exact hH0 | exact hH1 rfl | exact hH2 rfl rfl) rfl rfl) ?_
  refine gt (aad (Con.rekeyB 22 rfl rfl rfl rfl (auj _ _)) (.cons (.tmp rfl) (.cons (.tmp rfl) .nil)) (by first | exact hH0 | exact hH1 rfl | exact hH2 rfl rfl) rfl rfl) ?_
  refine gE2 ?_
  rfl
theorem axl {ts : List (List Rat)} {r e : Nat} (tw : Tw ts r) {a b c d : List Rat} (ha : Nm ts.length e a) (hb : Nm ts.length e b) (hc : Nm ts.length e c) (hd : Nm ts.length e d) (he : 2 * (e + e + kB r ts.length) <= lm ts.length) :
  FnC prog 68 [adv ts,ptA a b,ptA c d] (.tup [nA (sh ts.length (bho ts (dec ts.length a) (dec ts.length b) (dec ts.length c) (dec ts.length d))),.v .nilIface]) := by
 refine gF0 func68 ?_
 refine gc (Con.subA (.cons (.refl _) (.cons (.refl _) (.cons (.refl _) (.cons (Sub.fn0 _) .nil)))) (ai6 tw ha hb hc hd (by omega) _ _ (avm tw ha hb hc hd he))) ?_
 refine gE2 ?_
 first | rfl | (simp; done)
theorem awx {ts : List (List Rat)} {r e : Nat} (tw : Tw ts r) {a b c d : List Rat} (ha : Nm ts.length e a) (hb : Nm ts.length e b) (hc : Nm ts.length e c) (hd : Nm ts.length e d) (he : 2 * (e + e + kB r ts.length) <= lm ts.length) :
  FnC prog 168 [adv ts,nA a,nA b,ptA c d] (.tup [ptA (sh ts.length (a4p ts (dec ts.length a) (dec ts.length b) (dec ts.length c) (dec ts.length d))) (sh ts.length (a88 ts (dec ts.length a) (dec ts.length b) (dec ts.length c) (dec ts.length d))),.v .nilIface]) := by
 refine gF0 func168 ?_
 refine gc (aii (e := e) tw [a,b,c,d] (by simp only [mem_cons,not_mem_nil,or_false]; rintro x (rfl | rfl | rfl | rfl) <;> assumption) (by omega) (by simp)) ?_
 refine gC (fun ht22 => ?_) (fun ht22 => ?_) (st1 := (3,0))
 ·cases ht22
 ·refine gt (aad (Con.rekeyB 27 rfl rfl rfl rfl (afz tw ha hc (by omega))) (.cons (.tmp rfl) (.cons (.tmp rfl) (.cons (.tmp rfl) .nil))) (by first | exact hH0 | exact hH1 rfl | exact hH2 rfl rfl) rfl rfl) ?_
  refine gt (aad (Con.rekeyB 27 rfl rfl rfl rfl (afz tw hb hd (by omega))) (.cons (.tmp rfl) (.cons (.tmp rfl) (.cons (.tmp rfl) .nil))) (by first | exact hH0 | exact hH1 rfl | exact hH2 rfl rfl) rfl rfl) ?_
  refine gt (aad (Con.rekeyB 27 rfl rfl rfl rfl (al6 ▸ ak7 tw (ha.mul tw rfl hc) (hb.mul tw rfl hd) (by omega))) (.cons (.tmp rfl) (.cons (.tmp rfl) (.cons (.tmp rfl) .nil))) (by first | exact hH0 | exact hH1 rfl | exact hH2 rfl rfl) rfl rfl) ?_
  refine gt (aad (Con.rekeyB 27 rfl rfl rfl rfl (afz tw hb hc (by omega))) (.cons (.tmp rfl) (.cons (.tmp rfl) (.cons (.tmp rfl) .nil))) (by first | exact hH0 | exact hH1 rfl | exact hH2 rfl rfl) rfl rfl) ?_
  refine gt (aad (Con.rekeyB 27 rfl rfl rfl rfl (afz tw ha hd (by omega))) (.cons (.tmp rfl) (.cons (.tmp rfl) (.cons (.tmp rfl) .nil))) (by first | exact hH0 | exact hH1 rfl | exact hH2 rfl rfl) rfl rfl) ?_
  refine gt (aad (Con.rekeyB 27 rfl rfl rfl rfl (awv ▸ ak9 tw (hb.mul tw rfl hc) (ha.mul tw rfl hd) (by omega))) (.cons (.tmp rfl) (.cons (.tmp rfl) (.cons (.tmp rfl) .nil))) (by first | exact hH0 | exact hH1 rfl | exact hH2 rfl rfl) rfl rfl) ?_
  refine gt (aad (Con.rekeyB 27 rfl rfl rfl rfl (akh _ _ _)) (.cons (.tmp rfl) (.cons (.tmp rfl) .nil)) (by first | exact hH0 | exact hH1 rfl | exact hH2 rfl rfl) rfl rfl) ?_
  refine gD ?_
  refine gE2 ?_
  rfl
theorem axq {ts : List (List Rat)} {r e : Nat} (tw : Tw ts r) {a b c d : List Rat} (ha : Nm ts.length e a) (hb : Nm ts.length e b) (hc : Nm ts.length e c) (hd : Nm ts.length e d) (he : 2 * e <= lm ts.length) :
  FnC prog 170 [adv ts,ptA a b,ptA c d] (.tup [ptA (sh ts.length (T.add ts.length (dec ts.length a) (dec ts.length c))) (sh ts.length (T.add ts.length (dec ts.length b) (dec ts.length d))),.v .nilIface]) := by
 refine gF0 func170 ?_
 refine gc (ac9 (e := e) tw [(a,b),(c,d)] (by simp only [mem_cons,not_mem_nil,or_false]; rintro p (rfl | rfl); exact ⟨ha,hb⟩; exact ⟨hc,hd⟩) (by omega) (by simp)) ?_
 refine gC (fun ht16 => ?_) (fun ht16 => ?_) (st1 := (3,0))
 ·cases ht16
 ·refine gt (aad (Con.rekeyB 21 rfl rfl rfl rfl (ak9 tw ha hc (by omega))) (.cons (.tmp rfl) (.cons (.tmp rfl) (.cons (.tmp rfl) .nil))) (by first | exact hH0 | exact hH1 rfl | exact hH2 rfl rfl) rfl rfl) ?_
  refine gt (aad (Con.rekeyB 21 rfl rfl rfl rfl (ak9 tw hb hd (by omega))) (.cons (.tmp rfl) (.cons (.tmp rfl) (.cons (.tmp rfl) .nil))) (by first | exact hH0 | exact hH1 rfl | exact hH2 rfl rfl) rfl rfl) ?_
  refine gt (aad (Con.rekeyB 21 rfl rfl rfl rfl (akh _ _ _)) (.cons (.tmp rfl) (.cons (.tmp rfl) .nil)) (by first | exact hH0 | exact hH1 rfl | exact hH2 rfl rfl) rfl rfl) ?_
  refine gD ?_
  refine gE2 ?_
  rfl
theorem a20 {x y : Rat} (hx : Qs x) (hy : Qs y) : FnC prog 169 [qA x, qA y] (ptA (sh 0 (x : Rat)) (sh 0 (y : Rat))) := by
 refine gF0 func169 ?_
 refine gc (ayk hx) ?_
 refine gc (ayk hy) ?_
 refine gD ?_
 refine gE1 ?_
 first | rfl | (simp; done)
theorem arw {ts : List (List Rat)} {r e : Nat} (tw : Tw ts r) {a b c d : List Rat} (ha : Nm ts.length e a) (hb : Nm ts.length e b) (hc : Nm ts.length e c) (hd : Nm ts.length e d) {x y : Rat} (hx : Qb e x) (hy : Qb e y) (he : 8 * e + 4 * kB r ts.length + 4 <= lm ts.length) :
  FnC prog 71 [adv ts,.agg [nA a,nA b,nA c,nA d],qA x,qA y] (.tup [ptA (sh ts.length (atX ts (dec ts.length a) (dec ts.length b) (dec ts.length c) x y)) (sh ts.length (atY ts (dec ts.length a) (dec ts.length b) (dec ts.length d) x y)),.v .nilIface]) := by
 have hlm := amr ts.length
 have nx := Nm.ofQ ha.five (Cb.one hx)
 have ny := Nm.ofQ ha.five (Cb.one hy)
 have nX := aln tw ha hb nx ny
 have nY := ak4 tw ha hb nx ny
 have z1 : e <= 2 * (e + e + kB r ts.length) + 1:=by omega
 have z2 : 2 * (2 * (e + e + kB r ts.length) + 1) <= lm ts.length := a6t he
 have hadd := axq tw nX nY (hc.mono z1) (hd.mono z1) z2
 refine gF0 func71 ?_
 refine gc (aii (e := e) tw [a,b,c,d] (by simp only [mem_cons,not_mem_nil,or_false]; rintro x (rfl | rfl | rfl | rfl) <;> assumption) (by omega) (by simp)) ?_
 refine gC (fun ht25 => ?_) (fun ht25 => ?_) (st1 := (3,0))
 ·cases ht25
 ·refine gc (a20 (hx.qs (by omega)) (hy.qs (by omega))) ?_
  refine gc (awx tw ha hb nx ny (by omega)) ?_
  refine gD ?_
  refine gC (fun ht41 => ?_) (fun ht41 => ?_) (st1 := (6,0))
  ·cases ht41
  ·refine gc hadd ?_
   refine gE2 ?_
   rw [awn,awm]; rfl
end Go.Lw
namespace Go.Lw
open Go.Proofs
theorem av2 (rs : List (List Rt)) (r e : Nat) (h : TR rs r) (xs : List (List Rt)) (hx : ∀ a ∈ xs, NR a e) (he : e <= lm rs.length) (hl : xs.length <= 1000) : FnC prog 47 [agh rs, .lst 1 (xs.map nR)] (i64 (abf rs xs)) := by
 refine gF0 func47 ?_
 refine gc (api rs r h) ?_
 refine gC (fun ht13 => ?_) (fun ht13 => ?_)
 ·have h1 := aif ht13
  refine gE1 ?_
  rw [ar8 h1]
 ·have h1 := aie ht13
  refine gl ?_
  refine gL1 [2,15,16] [2] (fun (i : Nat) => [(17,some (i64 i))]) (fun _ => []) (fun i => i <= xs.length /\ ∀ x ∈ xs.take i,ahb rs.length x = 0) (fun i => xs.length - i) 0 ⟨zero_le _,fun x hx => by simp at hx⟩ ?_
  rintro i ⟨hi,hj⟩ K1 hK1
  refine gC (fun ht18 => ?_) (fun ht18 => ?_)
  ·have hin : i < xs.length := by simpa [aaa] using ht18
   obtain ⟨a,ha⟩ := ab9 hin
   have hok := hx a (mem_of_getElem? ha)
   have hone : abf rs [a] = ahb rs.length a := a1p h1
   refine gi (aaf ha) ?_
   refine gc (a3s rs r h a e hok he) ?_
   refine gC (fun ht28 => ?_) (fun ht28 => ?_)
   ·have h2 := aif ht28
    refine gE1 ?_
    rw [hone] at h2 ⊢; rw [atp h1 ha hj h2]
   ·have h2 := aie ht28
    rw [hone] at h2
    refine ga aau ?_
    exact gK1 hK1 (i + 1) ⟨hin,fun x hx => by rw [aak ha] at hx; rcases List.mem_append.1 hx with h9 | h9; exact hj x h9; (rw [List.mem_singleton.1 h9]; exact h2)⟩
  ·have hin : i = xs.length := by have : xs.length <= i := (by simpa [aaa] using ht18); omega
   subst hin
   rw [take_length] at hj
   refine gE1 ?_
   rw [amm h1 hj]; rfl
theorem ahr {ts : List (List Rat)} {r e f : Nat} (tw : Tw ts r) {a b : List Rat} (ha : Nm ts.length e a) (hb : Nm ts.length f b) (he : e + f <= lm ts.length) : FnC prog 48 [adv ts, nA a, nA b] (nA (sh ts.length (T.add ts.length (dec ts.length a) (dec ts.length b)))) := by
 refine gF0 func48 ?_
 refine gc (blr tw ha hb he) ?_
 refine gE1 ?_
 first | rfl | (simp; done)
theorem agt {ts : List (List Rat)} {r e f : Nat} (tw : Tw ts r) {a b : List Rat} (ha : Nm ts.length e a) (hb : Nm ts.length f b) (he : e + f <= lm ts.length) : FnC prog 83 [adv ts, nA a, nA b] (nA (sh ts.length (T.add ts.length (dec ts.length a) (T.neg ts.length (dec ts.length b))))) := by
 refine gF0 func83 ?_
 refine gc (bkt tw ha hb he) ?_
 refine gE1 ?_
 first | rfl | (simp; done)
theorem ac5 {ts : List (List Rat)} {r e f : Nat} (tw : Tw ts r) {a b : List Rat} (ha : Nm ts.length e a) (hb : Nm ts.length f b) (he : e + f <= lm ts.length) : FnC prog 84 [adv ts, nA a, nA b] (nA (sh ts.length (T.mul (aav ts) ts.length (dec ts.length a) (dec ts.length b)))) := by
 refine gF0 func84 ?_
 refine gc (biw tw ha hb he) ?_
 refine gE1 ?_
 first | rfl | (simp; done)
theorem apx {ts : List (List Rat)} {r e f : Nat} (tw : Tw ts r) {a b : List Rat} (ha : Nm ts.length e a) (hb : Nm ts.length f b) (he : e + f + 1 <= lm ts.length) : FnC prog 17 [adv ts, nA a, nA b] (bl (eqT ts (dec ts.length a) (dec ts.length b))) := by
 refine gF0 func17 ?_
 refine gc (bkr tw ha hb he) ?_
 refine gE1 ?_
 exact congrArg bl (bga _)
theorem a80 {ts : List (List Rat)} {r e : Nat} (tw : Tw ts r) {a b c d : List Rat} (ha : Nm ts.length e a) (hb : Nm ts.length e b) (hc : Nm ts.length e c) (hd : Nm ts.length e d) (he : 2 * (e + e + kB r ts.length) <= lm ts.length) : FnC prog 85 [adv ts, ptA a b, ptA c d] (nA (sh ts.length (bho ts (dec ts.length a) (dec ts.length b) (dec ts.length c) (dec ts.length d)))) := by
 refine gF0 func85 ?_
 refine gc (ac5 tw ha hc (by omega)) ?_
 refine gc (ac5 tw hb hd (by omega)) ?_
 refine gc (awv ▸ ahr tw (ha.mul tw rfl hc) (hb.mul tw rfl hd) (by omega)) ?_
 refine gD ?_
 refine gE1 ?_
 first | rfl | (simp; done)
theorem aya {ts : List (List Rat)} {r e : Nat} (tw : Tw ts r) {a b c d : List Rat} (ha : Nm ts.length e a) (hb : Nm ts.length e b) (hc : Nm ts.length e c) (hd : Nm ts.length e d) (he : 2 * (e + e + kB r ts.length) <= lm ts.length) : FnC prog 81 [adv ts, ptA a b, ptA c d] (nA (sh ts.length (ary ts (dec ts.length a) (dec ts.length b) (dec ts.length c) (dec ts.length d)))) := by
 refine gF0 func81 ?_
 refine gc (ac5 tw ha hd (by omega)) ?_
 refine gc (ac5 tw hb hc (by omega)) ?_
 refine gc (al6 ▸ agt tw (ha.mul tw rfl hd) (hb.mul tw rfl hc) (by omega)) ?_
 refine gD ?_
 refine gE1 ?_
 first | rfl | (simp; done)
theorem a84 {ts : List (List Rat)} {r e : Nat} (tw : Tw ts r) {a b c d : List Rat} (ha : Nm ts.length e a) (hb : Nm ts.length e b) (hc : Nm ts.length e c) (hd : Nm ts.length e d) (he : 2 * e <= lm ts.length) : FnC prog 82 [adv ts, ptA a b, ptA c d] (ptA (sh ts.length (subT ts (dec ts.length a) (dec ts.length c))) (sh ts.length (subT ts (dec ts.length b) (dec ts.length d)))) := by
 refine gF0 func82 ?_
 refine gc (agt tw ha hc (by omega)) ?_
 refine gc (agt tw hb hd (by omega)) ?_
 refine gD ?_
 refine gE1 ?_
 first | rfl | (simp; done)
theorem aun {ts : List (List Rat)} {r e : Nat} (tw : Tw ts r) {a b c d : List Rat} (ha : Nm ts.length e a) (hb : Nm ts.length e b) (hc : Nm ts.length e c) (hd : Nm ts.length e d) (he : 2 * e <= lm ts.length) : FnC prog 183 [adv ts, ptA a b, ptA c d] (ptA (sh ts.length (T.add ts.length (dec ts.length a) (dec ts.length c))) (sh ts.length (T.add ts.length (dec ts.length b) (dec ts.length d)))) := by
 refine gF0 func183 ?_
 refine gc (ahr tw ha hc (by omega)) ?_
 refine gc (ahr tw hb hd (by omega)) ?_
 refine gD ?_
 refine gE1 ?_
 first | rfl | (simp; done)
theorem art {ts : List (List Rat)} {r e : Nat} (tw : Tw ts r) {a b c d : List Rat} (ha : Nm ts.length e a) (hb : Nm ts.length e b) (hc : Nm ts.length e c) (hd : Nm ts.length e d) (he : 2 * (e + e + kB r ts.length) <= lm ts.length) : FnC prog 184 [adv ts, nA a, nA b, ptA c d] (ptA (sh ts.length (a4p ts (dec ts.length a) (dec ts.length b) (dec ts.length c) (dec ts.length d))) (sh ts.length (a88 ts (dec ts.length a) (dec ts.length b) (dec ts.length c) (dec ts.length d)))) := by
 refine gF0 func184 ?_
 refine gc (ac5 tw ha hc (by omega)) ?_
 refine gc (ac5 tw hb hd (by omega)) ?_
 refine gc (al6 ▸ agt tw (ha.mul tw rfl hc) (hb.mul tw rfl hd) (by omega)) ?_
 refine gc (ac5 tw hb hc (by omega)) ?_
 refine gc (ac5 tw ha hd (by omega)) ?_
 refine gc (awv ▸ ahr tw (hb.mul tw rfl hc) (ha.mul tw rfl hd) (by omega)) ?_
 refine gD ?_
 refine gE1 ?_
 first | rfl | (simp; done)
theorem a1j {x y : Rat} (hx : Qs x) (hy : Qs y) : FnC prog 182 [qA x, qA y] (ptA (sh 0 (x : Rat)) (sh 0 (y : Rat))) := by
 refine gF0 func182 ?_
 refine gc (bar hx) ?_
 refine gc (bar hy) ?_
 refine gD ?_
 refine gE1 ?_
 first | rfl | (simp; done)
theorem bbn {ts : List (List Rat)} {r e : Nat} (tw : Tw ts r) {a b c d : List Rat} (ha : Nm ts.length e a) (hb : Nm ts.length e b) (hc : Nm ts.length e c) (hd : Nm ts.length e d) {x y : Rat} (hx : Qb e x) (hy : Qb e y) (he : 8 * e + 4 * kB r ts.length + 4 <= lm ts.length) :
  FnC prog 181 [adv ts,.agg [nA a,nA b,nA c,nA d],qA x,qA y] (ptA (sh ts.length (atX ts (dec ts.length a) (dec ts.length b) (dec ts.length c) x y)) (sh ts.length (atY ts (dec ts.length a) (dec ts.length b) (dec ts.length d) x y))) := by
 have hlm := amr ts.length
 have nx := Nm.ofQ ha.five (Cb.one hx)
 have ny := Nm.ofQ ha.five (Cb.one hy)
 have nX := aln tw ha hb nx ny
 have nY := ak4 tw ha hb nx ny
 have z1 : e <= 2 * (e + e + kB r ts.length) + 1:=by omega
 have z2 : 2 * (2 * (e + e + kB r ts.length) + 1) <= lm ts.length := a6t he
 have hadd := aun tw nX nY (hc.mono z1) (hd.mono z1) z2
 refine gF0 func181 ?_
 refine gc (a1j (hx.qs (by omega)) (hy.qs (by omega))) ?_
 refine gc (art tw ha hb nx ny (by omega)) ?_
 refine gc hadd ?_
 refine gD ?_
 refine gE1 ?_
 rw [awn,awm]; rfl
theorem aon (n : Int) (h : -9223372036854775808 <= n /\ n <= 9223372036854775807) : FnC prog 54 [i64 n] (nA (sh 0 ((n : Rat) : Rat))) := by
 refine gF0 func54 ?_
 refine gc (azl n h) ?_
 refine gc (bar (av1 h)) ?_
 refine gE1 ?_
 first | rfl | (simp; done)
end Go.Lw
namespace Go.Lw
open Go.Proofs
end Go.Lw
namespace Go.Lw
open Go.Proofs
section
variable {ts : List (List Rat)} {u k : Nat} {a b a2 b2 : List Rat} {x y x2 y2 : Et ts} {w v w' v' w2 v2 w3 v3 : Nat}
theorem aqa (c : Ct ts u k) (h : w + v + (w' + v') <= 10000) : w * u + v * k + (w' * u + v' * k) + 1 <= lm ts.length := by
 have h1 := bln c (w := w + w') (v := v + v') (m := 10000) (by omega)
 have h2 := an3 ts.length
 rw [a0l]; omega
theorem a3o (c : Ct ts u k) {R : Nat} (h : eB R ts.length <= k) : 2 * (2500 * 1000000 + 2500 * 1000000 + kB R ts.length) <= lm ts.length := by
 have h1 := c.kk h
 have h2 := an3 ts.length
 omega
theorem bn2 [c : Ct ts u k] [ha : Zl ts u k a x w v] [hb : Zl ts u k b y w' v'] (h : w + v + (w' + v') <= 10000 := by decide) : FnC prog 231 [adv ts, nA a, nA b] (.tup [nA (sX (x + y)), .v .nilIface]) := by
 obtain ⟨R,tw,hk⟩ := c.ex
 have h0 := aqa c h
 have h1 := a9k tw ha.nm hb.nm (by omega)
 rw [ha.eq,hb.eq] at h1
 exact h1
theorem bks [c : Ct ts u k] [ha : Zl ts u k a x w v] [hb : Zl ts u k b y w' v'] (h : w + v + (w' + v') <= 10000 := by decide) : FnC prog 163 [adv ts, nA a, nA b] (.tup [nA (sX (x - y)), .v .nilIface]) := by
 obtain ⟨R,tw,hk⟩ := c.ex
 have h0 := aqa c h
 have h1 := a4u tw ha.nm hb.nm (by omega)
 rw [ha.eq,hb.eq] at h1
 exact h1
theorem bkg [c : Ct ts u k] [ha : Zl ts u k a x w v] [hb : Zl ts u k b y w' v'] (h : w + v + (w' + v') <= 10000 := by decide) : FnC prog 164 [adv ts, nA a, nA b] (.tup [nA (sX (x * y)), .v .nilIface]) := by
 obtain ⟨R,tw,hk⟩ := c.ex
 have h0 := aqa c h
 have h1 := a6u tw ha.nm hb.nm (by omega)
 rw [ha.eq,hb.eq] at h1
 exact h1
theorem bfx [c : Ct ts u k] [ha : Zl ts u k a x w v] [hb : Zl ts u k b y w' v'] (h : w + v + (w' + v') <= 10000 := by decide) : FnC prog 48 [adv ts, nA a, nA b] (nA (sX (x + y))) := by
 obtain ⟨R,tw,hk⟩ := c.ex
 have h0 := aqa c h
 have h1 := ahr tw ha.nm hb.nm (by omega)
 rw [ha.eq,hb.eq] at h1
 exact h1
theorem aob [c : Ct ts u k] [ha : Zl ts u k a x w v] [hb : Zl ts u k b y w' v'] (h : w + v + (w' + v') <= 10000 := by decide) : FnC prog 83 [adv ts, nA a, nA b] (nA (sX (x - y))) := by
 obtain ⟨R,tw,hk⟩ := c.ex
 have h0 := aqa c h
 have h1 := agt tw ha.nm hb.nm (by omega)
 rw [ha.eq,hb.eq] at h1
 exact h1
theorem ail [c : Ct ts u k] [ha : Zl ts u k a x w v] [hb : Zl ts u k b y w' v'] (h : w + v + (w' + v') <= 10000 := by decide) : FnC prog 84 [adv ts, nA a, nA b] (nA (sX (x * y))) := by
 obtain ⟨R,tw,hk⟩ := c.ex
 have h0 := aqa c h
 have h1 := ac5 tw ha.nm hb.nm (by omega)
 rw [ha.eq,hb.eq] at h1
 exact h1
theorem a0f [c : Ct ts u k] [ha : Zl ts u k a x w v] [hb : Zl ts u k b y w' v'] (h : w + v + (w' + v') <= 10000 := by decide) : FnC prog 17 [adv ts, nA a, nA b] (bl (eqE x y)) := by
 obtain ⟨R,tw,hk⟩ := c.ex
 have h0 := aqa c h
 have h1 := apx tw ha.nm hb.nm (by omega)
 rw [ha.eq,hb.eq] at h1
 exact h1
theorem ap0 [c : Ct ts u k] [ha : Zl ts u k a x w v] [hb : Zl ts u k b y w' v'] [ha2 : Zl ts u k a2 x2 w2 v2] [hb2 : Zl ts u k b2 y2 w3 v3] (h : w + v + (w' + v') + (w2 + v2 + (w3 + v3)) <= 2500 := by decide) :
  FnC prog 82 [adv ts,ptA a b,ptA a2 b2] (ptA (sX (x - x2)) (sX (y - y2))) := by
 obtain ⟨R,tw,hk⟩ := c.ex
 have h0 := a3o c hk
 have h1 := a84 (e := 2500 * 1000000) tw (ha.up c (by omega)) (hb.up c (by omega)) (ha2.up c (by omega)) (hb2.up c (by omega)) (by omega)
 rw [ha.eq,hb.eq,ha2.eq,hb2.eq] at h1
 exact h1
theorem a04 [c : Ct ts u k] [ha : Zl ts u k a x w v] [hb : Zl ts u k b y w' v'] [ha2 : Zl ts u k a2 x2 w2 v2] [hb2 : Zl ts u k b2 y2 w3 v3] (h : w + v + (w' + v') + (w2 + v2 + (w3 + v3)) <= 2500 := by decide) :
  FnC prog 85 [adv ts,ptA a b,ptA a2 b2] (nA (sX (dotE x y x2 y2))) := by
 obtain ⟨R,tw,hk⟩ := c.ex
 have h0 := a3o c hk
 have h1 := a80 (e := 2500 * 1000000) tw (ha.up c (by omega)) (hb.up c (by omega)) (ha2.up c (by omega)) (hb2.up c (by omega)) (by omega)
 rw [ha.eq,hb.eq,ha2.eq,hb2.eq] at h1
 exact h1
theorem aty [c : Ct ts u k] [ha : Zl ts u k a x w v] [hb : Zl ts u k b y w' v'] [ha2 : Zl ts u k a2 x2 w2 v2] [hb2 : Zl ts u k b2 y2 w3 v3] (h : w + v + (w' + v') + (w2 + v2 + (w3 + v3)) <= 2500 := by decide) :
  FnC prog 81 [adv ts,ptA a b,ptA a2 b2] (nA (sX (crsE x y x2 y2))) := by
 obtain ⟨R,tw,hk⟩ := c.ex
 have h0 := a3o c hk
 have h1 := aya (e := 2500 * 1000000) tw (ha.up c (by omega)) (hb.up c (by omega)) (ha2.up c (by omega)) (hb2.up c (by omega)) (by omega)
 rw [ha.eq,hb.eq,ha2.eq,hb2.eq] at h1
 exact h1
theorem a1a [c : Ct ts u k] [ha : Zl ts u k a x w v] [hb : Zl ts u k b y w' v'] [ha2 : Zl ts u k a2 x2 w2 v2] [hb2 : Zl ts u k b2 y2 w3 v3] (h : w + v + (w' + v') + (w2 + v2 + (w3 + v3)) <= 2500 := by decide) :
  FnC prog 68 [adv ts,ptA a b,ptA a2 b2] (.tup [nA (sX (dotE x y x2 y2)),.v .nilIface]) := by
 obtain ⟨R,tw,hk⟩ := c.ex
 have h0 := a3o c hk
 have h1 := axl (e := 2500 * 1000000) tw (ha.up c (by omega)) (hb.up c (by omega)) (ha2.up c (by omega)) (hb2.up c (by omega)) (by omega)
 rw [ha.eq,hb.eq,ha2.eq,hb2.eq] at h1
 exact h1
def atXE (c s X : Et ts) (p q : Rat) : Et ts := (c * qE p - s * qE q) + X
def atYE (c s Y : Et ts) (p q : Rat) : Et ts := (s * qE p + c * qE q) + Y
instance Zu.atXE [c : Ct ts u k] {x y z : Et ts} {p q : Rat} {w1 v1 w2 v2 w3 v3 w4 w5 : Nat} [Zu u k x w1 v1] [Zu u k y w2 v2] [Zu u k z w3 v3] [Qz u p w4] [Qz u q w5] : Zu u k (atXE x y z p q) (w1 + w4 + (w2 + w5) + w3) (v1 + 0 + 1 + (v2 + 0 + 1) + 1 + v3 + 1) :=
  (inferInstance : Zu u k ((x * Lw.qE p - y * Lw.qE q) + z) _ _)
instance Zu.atYE [c : Ct ts u k] {x y z : Et ts} {p q : Rat} {w1 v1 w2 v2 w3 v3 w4 w5 : Nat} [Zu u k x w1 v1] [Zu u k y w2 v2] [Zu u k z w3 v3] [Qz u p w4] [Qz u q w5] : Zu u k (atYE x y z p q) (w2 + w4 + (w1 + w5) + w3) (v2 + 0 + 1 + (v1 + 0 + 1) + 1 + v3 + 1) :=
  (inferInstance : Zu u k ((y * Lw.qE p + x * Lw.qE q) + z) _ _)
end
end Go.Lw
namespace Go.Lw
open Go.Proofs
def u8 (n : Nat) : AV := .v (.int .u8 n)
theorem apl {p q : Bool} {a b : Nat} {c : Nat} (hp : p = decide (a <= c)) (hq : q = decide (c <= b)) : cond p q false = decide (a <= c /\ c <= b) := by
 subst hp; subst hq
 by_cases h : a <= c
 ·simp [h]
 ·simp [h]
theorem a78 (c k : Nat) : aaa .geq (c : Int) (k : Int) = decide (k <= c):=by simp only [aaa,decide_eq_decide]; omega
theorem a9g (c k : Nat) : aaa .leq (c : Int) (k : Int) = decide (c <= k):=by simp only [aaa,decide_eq_decide]; omega
theorem bca (c : Nat) : cond (cond (aaa .geq (c : Int) 97) (aaa .leq (c : Int) 122) false) true (cond (aaa .geq (c : Int) 65) (aaa .leq (c : Int) 90) false) = aca c := by
 have e1 : cond (aaa .geq (c : Int) 97) (aaa .leq (c : Int) 122) false = decide (97 <= c /\ c <= 122) := apl (a78 c 97) (a9g c 122)
 have e2 : cond (aaa .geq (c : Int) 65) (aaa .leq (c : Int) 90) false = decide (65 <= c /\ c <= 90) := apl (a78 c 65) (a9g c 90)
 rw [e1,e2]
 unfold aca
 cases decide (97 <= c /\ c <= 122) <;> rfl
theorem ba8 (c : Nat) : cond (cond (aaa .geq (c : Int) 65) (aaa .leq (c : Int) 90) false) true (cond (aaa .geq (c : Int) 97) (aaa .leq (c : Int) 122) false) = aca c := by
 have e1 : cond (aaa .geq (c : Int) 97) (aaa .leq (c : Int) 122) false = decide (97 <= c /\ c <= 122) := apl (a78 c 97) (a9g c 122)
 have e2 : cond (aaa .geq (c : Int) 65) (aaa .leq (c : Int) 90) false = decide (65 <= c /\ c <= 90) := apl (a78 c 65) (a9g c 90)
 rw [e1,e2]
 unfold aca
 cases decide (97 <= c /\ c <= 122) <;> cases decide (65 <= c /\ c <= 90) <;> rfl
theorem a8s (c : Nat) : cond (aaa .geq (c : Int) 48) (aaa .leq (c : Int) 57) false = arp c := apl (a78 c 48) (a9g c 57)
theorem a7s (c : Nat) : cond (cond (aca c) true (arp c)) true (aaa .eql (c : Int) 95) = apg c := by
 unfold apg
 have : aaa .eql (c : Int) 95 = decide (c = 95) := by
  rw [Bool.eq_iff_iff]; simp only [aaa,beq_iff_eq,decide_eq_true_eq]; omega
 rw [this]
 cases aca c <;> cases arp c <;> rfl
theorem akd (c : Nat) : FnC prog 372 [u8 c] (bl (aca c)) := by
 refine gF0 func372 ?_
 refine gE1 ?_
 exact congrArg bl (bca c)
theorem atj (c : Nat) : FnC prog 410 [u8 c] (bl (arp c)) := by
 refine gF0 func410 ?_
 refine gE1 ?_
 exact congrArg bl (a8s c)
theorem auk (c : Nat) : FnC prog 373 [u8 c] (bl (apg c)) := by
 refine gF0 func373 ?_
 refine gc (akd c) ?_
 refine gcG (fun _ => (atj c)) ?_
 refine gE1 ?_
 exact congrArg bl (a7s c)
theorem akc (c : Nat) : FnC prog 289 [u8 c] (bl (aca c)) := by
 refine gF0 func289 ?_
 refine gE1 ?_
 exact congrArg bl (ba8 c)
theorem at1 (c : Nat) : FnC prog 291 [u8 c] (bl (arp c)) := by
 refine gF0 func291 ?_
 refine gE1 ?_
 exact congrArg bl (a8s c)
theorem aut (s : ByteArray) (hs : s.size <= 281474976710656) : FnC prog 300 [.v (.string s)] (i64 (agz s)) := by
 refine gF0 func300 ?_
 refine gs (acb rfl rfl rfl (fun h => alb (.opt rfl (o1 h)) (.const _) T9 rfl (by omega) (by have := a74 h; omega) rfl)) ?_
 refine gcG (fun _ => (akd (acy s 0))) ?_
 refine gC (fun ht11 => ?_) (fun ht11 => ?_)
 ·have h0 : agz s = 0 := a82 ht11
  refine gE1 ?_
  rw [h0]; rfl
 ·obtain ⟨h0, h1⟩ := a60 ht11
  refine gL1 [0] [] (fun (n : Nat) => [(3,some (i64 n))]) (fun _ => []) (fun n => 1 <= n /\ n <= s.size /\ ag7 s 1 (s.size - 1) = ag7 s n (s.size - n)) (fun n => s.size - n) 1 ⟨le_refl _,h0,rfl⟩ ?_
  rintro n ⟨hn1,hn,hw⟩ K1 hK1
  refine gs (acb rfl rfl rfl (fun h => alb (.opt rfl (o1 h)) (.opt rfl (o1 h)) T9 rfl (by omega) (by have := abo h; omega) rfl)) ?_
  refine gcG (fun _ => (auk (acy s n))) ?_
  refine gC (fun ht21 => ?_) (fun ht21 => ?_)
  ·have h2 : n < s.size /\ apg (acy s n) = true := baf ht21
   refine ga aau ?_
   exact gK1 hK1 (n + 1) ⟨by omega,by omega,by rw [hw,show s.size - n = (s.size - (n + 1)) + 1 by omega]; simp only [ag7,h2.2,if_true]⟩
  ·have h2 : n < s.size -> apg (acy s n) = false := a6v ht21
   have h3 : agz s = n := by
    unfold agz
    rw [if_pos ⟨h0,h1⟩,hw]
    rcases lt_or_ge n s.size with h | h
    ·rw [show s.size - n = (s.size - (n + 1)) + 1 by omega]
     simp only [ag7,h2 h,Bool.false_eq_true,if_false]
    ·rw [show s.size - n = 0 by omega]; rfl
   refine gE1 ?_
   rw [h3]
theorem afw (s : ByteArray) (hs : s.size <= 281474976710656) : FnC prog 198 [.v (.string s)] (bl (ako s)) := by
 refine gF0 func198 ?_
 refine gc (aut s hs) ?_
 refine gE1 ?_
 exact congrArg bl (a47 s)
theorem aod (s : ByteArray) (i : Nat) : FnC prog 290 [.v (.string s), i64 i] (u8 (acy s i)) := by
 refine gF0 func290 ?_
 refine gC (fun ht8 => ?_) (fun ht8 => ?_)
 ·have h0 := abo ht8
  refine gs (alb (.tmp rfl) (.tmp rfl) T9 rfl (by omega) (by omega) rfl) ?_
  refine gE1 ?_
  rfl
 ·have h0 := a8j ht8
  refine gE1 ?_
  rw [a0d (by omega)]; rfl
theorem at5 (s : ByteArray) (hs : s.size <= 281474976710656) : FnC prog 171 [.v (.string s), i64 0] (i64 ((if aca (acy s 0) then ag7 s 0 s.size else 0 : Nat))) := by
 refine gF0 func171 ?_
 refine gc (aod s 0) ?_
 refine gc (akc (acy s 0)) ?_
 refine gC (fun ht9 => ?_) (fun ht9 => ?_)
 ·have h0 : aca (acy s 0) = false := by simpa using ht9
  refine gE1 ?_
  rw [h0]; rfl
 ·have h0 : aca (acy s 0) = true := by simpa using ht9
  refine gL1 [0] [] (fun (n : Nat) => [(1,some (i64 n))]) (fun _ => []) (fun n => n <= s.size /\ ag7 s 0 s.size = ag7 s n (s.size - n)) (fun n => s.size - n) 0 ⟨zero_le _,rfl⟩ ?_
  rintro n ⟨hn,hw⟩ K1 hK1
  refine gc (aod s n) ?_
  refine gc (akc (acy s n)) ?_
  refine gcG (fun _ => (aod s n)) ?_
  refine gcG (fun _ => (at1 (acy s n))) ?_
  refine gcG (fun _ => (aod s n)) ?_
  refine gC (fun ht26 => ?_) (fun ht26 => ?_)
  ·have h1 : apg (acy s n) = true := (a7s _).symm.trans ht26
   have h2 : n < s.size := by
    rcases lt_or_ge n s.size with h | h
    ·exact h
    ·rw [a0d h] at h1; cases h1
   refine ga aau ?_
   exact gK1 hK1 (n + 1) ⟨by omega,by rw [hw,show s.size - n = (s.size - (n + 1)) + 1 by omega]; simp only [ag7,h1,if_true]⟩
  ·have h1 : apg (acy s n) = false := (a7s _).symm.trans ht26
   have h2 : ag7 s 0 s.size = n := by
    rw [hw]
    rcases lt_or_ge n s.size with h | h
    ·rw [show s.size - n = (s.size - (n + 1)) + 1 by omega]
     simp only [ag7,h1,Bool.false_eq_true,if_false]
    ·rw [show s.size - n = 0 by omega]; rfl
   refine gE1 ?_
   rw [h0,h2]; rfl
theorem ahu (s : ByteArray) (hs : s.size <= 281474976710656) : FnC prog 74 [.v (.string s)] (bl (ako s)) := by
 refine gF0 func74 ?_
 refine gcG (fun _ => (at5 s hs)) ?_
 refine gE1 ?_
 exact congrArg bl (a2t s)
end Go.Lw
namespace Go.Lw
open Go.Proofs
theorem af9 (i : Int) (n : Nat) : FnC prog 302 [i64 i, i64 n] (bl (inB i n)) := by
 refine gF0 func302 ?_
 refine gE1 ?_
 exact congrArg bl (a0s i n)
theorem aq3 (bs : List Bd) (hbs : ∀ b ∈ bs, b.ok) (hl : bs.length <= 281474976710656) : FnC prog 199 [.lst 2 (bs.map Bd.av)] (ajw (ad6 bs.length (bdE bs))) := by
 refine gF0 func199 ?_
 refine gl ?_
 refine gL1 [0,11,12] [] (fun (i : Nat) => [(13,some (i64 i))]) (fun _ => []) (fun i => i <= bs.length /\ ∀ j,j < i -> bdE bs j = 0) (fun i => bs.length - i) 0 ⟨zero_le _,fun j h => by omega⟩ ?_
 rintro i ⟨hi,hj⟩ K1 hK1
 refine gC (fun ht14 => ?_) (fun ht14 => ?_)
 ·have hin := abo ht14
  obtain ⟨b,hb⟩ := ab9 hin
  have hbd : bs.getD i default = b := aag hb
  have hbo := hbs b (mem_of_getElem? hb)
  have hbdup := afp Bd.name hb
  refine gi (aaf hb) ?_
  refine gc (afw b.name hbo.name) ?_
  refine gC (fun ht21 => ?_) (fun ht21 => ?_)
  ·have h1 := af0 ht21
   have e1 : bdE bs i = 5:=by unfold bdE; rw [hbd,if_pos h1]
   refine gE1 ?_
   rw [aa1 hin hj (by rw [e1]; decide),e1]; rfl
  ·have h1 := afu ht21
   refine gs (aap (.tmp rfl) (.none _) (.some _ (.tmp rfl) (by omega)) T22 rfl T118 rfl (by omega) (by simp only [length_map]; omega) rfl) ?_
   refine ge rfl ?_
   refine gL1 [0,3,4,11,12,13] [4] (fun (k : Nat) => [(25,some (.lst 2 ((bs.take i).map Bd.av))),(26,some (i64 i)),(27,some (i64 k))]) (fun _ => []) (fun k => k <= i /\ (bs.take k).any (fun y => eqS y.name b.name) = false) (fun k => i - k) 0 ⟨zero_le _,rfl⟩ ?_ (h1 := (.cons rfl (Sub.of (bie 2 Bd.av bs i)) (.cons rfl (Sub.int (by simp; omega)) (.k .nil))))
   rintro k ⟨hk,hd⟩ K2 hK2
   refine gC (fun ht28 => ?_) (fun ht28 => ?_)
   ·have hkn := abo ht28
    obtain ⟨y,hy'⟩ : ∃ y,(bs.take i)[k]? = some y := ab9 (by simp; omega)
    have hy := (alu hy').1
    refine gi (aaf hy') ?_
    refine gC (fun ht35 => ?_) (fun ht35 => ?_)
    ·have h2 : eqS y.name b.name = true := ht35
     have e1 : bdE bs i = 6:=by unfold bdE; rw [hbd,if_neg (by rw [h1]; decide),if_pos (by rw [hbdup]; exact ahe hy hkn h2)]
     refine gE1 ?_
     rw [aa1 hin hj (by rw [e1]; decide),e1]; rfl
    ·have h2 : eqS y.name b.name = false := ht35
     refine ga aau ?_
     exact gK1 hK2 (k + 1) ⟨hkn,aew hy hd h2⟩
   ·have hkn := aan hk ht28
    subst hkn
    have hnd : ¬ awg (bs.map Bd.name) k = true:=by rw [hbdup,hd]; decide
    refine gl ?_
    refine gC (fun ht41 => ?_) (fun ht41 => ?_)
    ·have h3 : 8 < b.pts.length := amn ht41
     have e1 : bdE bs k = 4:=by unfold bdE; rw [hbd,if_neg (by rw [h1]; decide),if_neg hnd,if_pos h3]
     refine gE1 ?_
     rw [aa1 hin hj (by rw [e1]; decide),e1]; rfl
    ·have h3 : b.pts.length <= 8 := an4 ht41
     have e1 : bdE bs k = ad6 b.pts.length (mkE b.pts):=by unfold bdE; rw [hbd,if_neg (by rw [h1]; decide),if_neg hnd,if_neg (by omega)]
     refine gl ?_
     refine gL1 [0,4,11,12,13,44,45] [4] (fun (p : Nat) => [(46,some (i64 p))]) (fun _ => []) (fun p => p <= b.pts.length /\ ∀ j,j < p -> mkE b.pts j = 0) (fun p => b.pts.length - p) 0 ⟨zero_le _,fun j h => by omega⟩ ?_
     rintro p ⟨hp,hpj⟩ K3 hK3
     refine gC (fun ht47 => ?_) (fun ht47 => ?_)
     ·have hpn := abo ht47
      obtain ⟨m,hm⟩ := ab9 hpn
      have hmd : b.pts.getD p default = m := aag hm
      have hmm := mem_of_getElem? hm
      have hmdup := afp Mk.name hm
      have hmo := hbo.pts m hmm
      refine gi (aaf hm) ?_
      refine gc (afw m.name (hbo.names m hmm)) ?_
      refine gC (fun ht54 => ?_) (fun ht54 => ?_)
      ·have h4 := af0 ht54
       have e2 : mkE b.pts p = 5:=by unfold mkE; rw [hmd,if_pos h4]
       have e3 : bdE bs k = 5:=by rw [e1,aa1 hpn hpj (by rw [e2]; decide),e2]
       refine gE1 ?_
       rw [aa1 hin hj (by rw [e3]; decide),e3]; rfl
      ·have h4 := afu ht54
       refine gs (aap (.tmp rfl) (.none _) (.some _ (.tmp rfl) (by omega)) T116 rfl T120 rfl (by omega) (by simp only [length_map]; omega) rfl) ?_
       refine ge rfl ?_
       refine gL1 [0,4,8,11,12,13,44,45,46] [4,8] (fun (q : Nat) => [(59,some (.lst 7 ((b.pts.take p).map Mk.av))),(60,some (i64 p)),(61,some (i64 q))]) (fun _ => []) (fun q => q <= p /\ (b.pts.take q).any (fun y => eqS y.name m.name) = false) (fun q => p - q) 0 ⟨zero_le _,rfl⟩ ?_ (h1 := (.cons rfl (Sub.of (bie 7 Mk.av b.pts p)) (.cons rfl (Sub.int (by simp; omega)) (.k .nil))))
       rintro q ⟨hq,hqd⟩ K4 hK4
       refine gC (fun ht62 => ?_) (fun ht62 => ?_)
       ·have hqn := abo ht62
        obtain ⟨y,hy'⟩ : ∃ y,(b.pts.take p)[q]? = some y := ab9 (by simp; omega)
        have hy := (alu hy').1
        refine gi (aaf hy') ?_
        refine gC (fun ht69 => ?_) (fun ht69 => ?_)
        ·have h5 : eqS y.name m.name = true := ht69
         have e2 : mkE b.pts p = 6:=by unfold mkE; rw [hmd,if_neg (by rw [h4]; decide),if_pos (by rw [hmdup]; exact ahe hy hqn h5)]
         have e3 : bdE bs k = 6:=by rw [e1,aa1 hpn hpj (by rw [e2]; decide),e2]
         refine gE1 ?_
         rw [aa1 hin hj (by rw [e3]; decide),e3]; rfl
        ·have h5 : eqS y.name m.name = false := ht69
         refine ga aau ?_
         exact gK1 hK4 (q + 1) ⟨hqn,aew hy hqd h5⟩
       ·have hqn := aan hq ht62
        subst hqn
        have hmnd : ¬ awg (b.pts.map Mk.name) q = true:=by rw [hmdup,hqd]; decide
        refine gc (ac7 m.x hmo.x) ?_
        refine gcG (fun _ => (ac7 m.y hmo.y)) ?_
        refine gC (fun ht81 => ?_) (fun ht81 => ?_)
        ·have h6 := bg8 ht81
         have e2 : mkE b.pts q = 3:=by unfold mkE; rw [hmd,if_neg (by rw [h4]; decide),if_neg hmnd,if_neg (by rintro ⟨g1,g2⟩; rcases h6 with g | g; (rw [g1] at g; cases g); (rw [g2] at g; cases g))]
         have e3 : bdE bs k = 3:=by rw [e1,aa1 hpn hpj (by rw [e2]; decide),e2]
         refine gE1 ?_
         rw [aa1 hin hj (by rw [e3]; decide),e3]; rfl
        ·have h6 := bey ht81
         have e2 : mkE b.pts q = 0:=by unfold mkE; rw [hmd,if_neg (by rw [h4]; decide),if_neg hmnd,if_pos h6]
         refine ga aau ?_
         exact gK1 hK3 (q + 1) ⟨hpn,fun j h9 => by rcases lt_or_ge j q with g | g; exact hpj j g; (have : j = q:=by omega); subst this; exact e2⟩
     ·have hpn := aan hp ht47
      subst hpn
      have e2 : bdE bs k = 0 := e1.trans (ael hpj)
      refine ga aau ?_
      exact gK1 hK1 (k + 1) ⟨hin,fun j h9 => by rcases lt_or_ge j k with g | g; exact hj j g; (have : j = k:=by omega); subst this; exact e2⟩
 ·have hin := aan hi ht14
  subst hin
  refine gE1 ?_
  rw [ael hj]; rfl
end Go.Lw
namespace Go.Lw
open Go.Proofs
theorem asm (l : Li) (hl : l.ok) (j : Jt) : FnC prog 301 [l.av, j.av] (ajw (jt0 l j)) := by
 refine gF0 func301 ?_
 refine gC (fun ht15 => ?_) (fun ht15 => ?_)
 ·have h1 := bc9 ht15
  refine gE1 ?_
  unfold jt0; rw [if_pos h1]; rfl
 ·have h1 := bdf ht15
  refine gl ?_
  refine gc (af9 j.a l.bodies.length) ?_
  refine glG ?_
  refine gcG (fun _ => (af9 j.b l.bodies.length)) ?_
  refine gC (fun ht32 => ?_) (fun ht32 => ?_)
  ·have h2 := bg8 ht32
   refine gE1 ?_
   unfold jt0; rw [if_neg h1,if_pos h2]; rfl
  ·have h2 := bey ht32
   have h2n : ¬ (inB j.a l.bodies.length = false \/ inB j.b l.bodies.length = false):=by rw [h2.1,h2.2]; simp
   obtain ⟨A,hA,pA,mA,zA0⟩ := ars h2.1
   obtain ⟨B,hB,pB,mB,zB0⟩ := ars h2.2
   refine gC (fun ht38 => ?_) (fun ht38 => ?_)
   ·have h3 := ae9 ht38
    refine gE1 ?_
    unfold jt0; rw [if_neg h1,if_neg h2n,if_pos h3]; rfl
   ·have h3 := afy ht38
    refine gi (aaf hB) ?_
    refine gi (aaf hA) ?_
    refine gl ?_
    refine gc (af9 j.point A.pts.length) ?_
    refine glG ?_
    refine gcG (fun _ => (af9 j.on B.pts.length)) ?_
    refine gD ?_
    refine gC (fun ht66 => ?_) (fun ht66 => ?_)
    ·have h4 := bg8 ht66
     refine gE1 ?_
     unfold jt0; rw [if_neg h1,if_neg h2n,if_neg h3,pA,pB,if_pos h4]; rfl
    ·have h4 := bey ht66
     have h4n : ¬ (inB j.point A.pts.length = false \/ inB j.on B.pts.length = false):=by rw [h4.1,h4.2]; simp
     refine gC (fun ht70 => ?_) (fun ht70 => ?_)
     ·have h5 := ae9 ht70
      refine gC (fun ht73 => ?_) (fun ht73 => ?_)
      ·have h6 := a09 ht73
       refine gE1 ?_
       unfold jt0; rw [if_neg h1,if_neg h2n,if_neg h3,pA,pB,if_neg h4n,if_pos h5,if_pos h6]; rfl
      ·have h6 := bcu ht73
       refine gE1 ?_
       unfold jt0; rw [if_neg h1,if_neg h2n,if_neg h3,pA,pB,if_neg h4n,if_pos h5,if_neg (by rw [h6]; simp)]; rfl
     ·have h5 := afy ht70
      refine gl ?_
      refine gc (af9 j.to B.pts.length) ?_
      refine gC (fun ht80 => ?_) (fun ht80 => ?_)
      ·have h6 := af0 ht80
       refine gE1 ?_
       unfold jt0; rw [if_neg h1,if_neg h2n,if_neg h3,pA,pB,if_neg h4n,if_neg h5,if_pos h6]; rfl
      ·have h6 := afu ht80
       obtain ⟨m1,g1,d1,mm1,z1⟩ := aw4 h4.2
       obtain ⟨m2,g2,d2,mm2,z2⟩ := aw4 h6
       have mo1 := (hl.bodies B mB).pts m1 mm1
       have mo2 := (hl.bodies B mB).pts m2 mm2
       refine gi (aaf g1) ?_
       refine gi (aaf g2) ?_
       refine gD ?_
       refine gc (aj4 m1.x m2.x mo1.x mo2.x) ?_
       refine gcG (fun _ => (aj4 m1.y m2.y mo1.y mo2.y)) ?_
       refine gC (fun ht105 => ?_) (fun ht105 => ?_)
       ·have h7 := bds ht105
        refine gE1 ?_
        unfold jt0; rw [if_neg h1,if_neg h2n,if_neg h3,pA,pB,if_neg h4n,if_neg h5,if_neg (by rw [h6]; decide),d1,d2,if_pos h7]; rfl
       ·have h7 := bda ht105
        refine gE1 ?_
        unfold jt0; rw [if_neg h1,if_neg h2n,if_neg h3,pA,pB,if_neg h4n,if_neg h5,if_neg (by rw [h6]; decide),d1,d2,if_neg h7]; rfl
theorem aq0 (l : Li) (hl : l.ok) : FnC prog 200 [l.av] (ajw (ao3 l)) := by
 have hlj := hl.lj
 refine gF0 func200 ?_
 refine gl ?_
 refine gC (fun ht11 => ?_) (fun ht11 => ?_)
 ·have h0 : 16 < l.joints.length := amn ht11
  refine gE1 ?_
  unfold ao3; rw [if_pos h0]; rfl
 ·have h0 : l.joints.length <= 16 := an4 ht11
  have e0 : ao3 l = ad6 l.joints.length (jtE l):=by unfold ao3; rw [if_neg (by omega)]
  refine gl ?_
  refine gL1 [1,14,15] [1] (fun (i : Nat) => [(16,some (i64 i))]) (fun _ => []) (fun i => i <= l.joints.length /\ ∀ j,j < i -> jtE l j = 0) (fun i => l.joints.length - i) 0 ⟨zero_le _,fun j h => by omega⟩ ?_
  rintro i ⟨hi,hj⟩ K1 hK1
  refine gC (fun ht17 => ?_) (fun ht17 => ?_)
  ·have hin := abo ht17
   obtain ⟨b,hb⟩ := ab9 hin
   have hbd : l.joints.getD i default = b := aag hb
   have hbdup := afp Jt.name hb
   refine gi (aaf hb) ?_
   refine gc (afw b.name (hl.jnames b (mem_of_getElem? hb))) ?_
   refine gC (fun ht24 => ?_) (fun ht24 => ?_)
   ·have h1 := af0 ht24
    have e1 : jtE l i = 5:=by unfold jtE; rw [hbd,if_pos h1]
    refine gE1 ?_
    rw [e0,aa1 hin hj (by rw [e1]; decide),e1]; rfl
   ·have h1 := afu ht24
    refine gs (aap (.tmp rfl) (.none _) (.some _ (.tmp rfl) (by omega)) T23 rfl T157 rfl (by omega) (by simp only [length_map]; omega) rfl) ?_
    refine ge rfl ?_
    refine gL1 [1,3,4,14,15,16] [1,4] (fun (k : Nat) => [(29,some (.lst 7 ((l.joints.take i).map Jt.av))),(30,some (i64 i)),(31,some (i64 k))]) (fun _ => []) (fun k => k <= i /\ (l.joints.take k).any (fun y => eqS y.name b.name) = false) (fun k => i - k) 0 ⟨zero_le _,rfl⟩ ?_ (h1 := (.cons rfl (Sub.of (bie 7 Jt.av l.joints i)) (.cons rfl (Sub.int (by simp; omega)) (.k .nil))))
    rintro k ⟨hk,hd⟩ K2 hK2
    refine gC (fun ht32 => ?_) (fun ht32 => ?_)
    ·have hkn := abo ht32
     obtain ⟨y,hy'⟩ : ∃ y,(l.joints.take i)[k]? = some y := ab9 (by simp; omega)
     have hy := (alu hy').1
     refine gi (aaf hy') ?_
     refine gC (fun ht39 => ?_) (fun ht39 => ?_)
     ·have h2 : eqS y.name b.name = true := ht39
      have e1 : jtE l i = 6:=by unfold jtE; rw [hbd,if_neg (by rw [h1]; decide),if_pos (by rw [hbdup]; exact ahe hy hkn h2)]
      refine gE1 ?_
      rw [e0,aa1 hin hj (by rw [e1]; decide),e1]; rfl
     ·have h2 : eqS y.name b.name = false := ht39
      refine ga aau ?_
      exact gK1 hK2 (k + 1) ⟨hkn,aew hy hd h2⟩
    ·have hkn := aan hk ht32
     subst hkn
     have hnd : ¬ awg (l.joints.map Jt.name) k = true:=by rw [hbdup,hd]; decide
     have e1 : jtE l k = jt0 l b:=by unfold jtE; rw [hbd,if_neg (by rw [h1]; decide),if_neg hnd]
     refine gc (asm l hl b) ?_
     refine gC (fun ht46 => ?_) (fun ht46 => ?_)
     ·have h3 := af6 ht46
      refine gE1 ?_
      rw [e0,aa1 hin hj (by rw [e1]; exact h3),e1]
     ·have h3 := ae0 ht46
      refine ga aau ?_
      exact gK1 hK1 (k + 1) ⟨hin,fun j h9 => by rcases lt_or_ge j k with g | g; exact hj j g; (have : j = k:=by omega); subst this; exact e1.trans h3⟩
  ·have hin := aan hi ht17
   subst hin
   refine gE1 ?_
   rw [e0,ael hj]; rfl
theorem aqr (l : Li) (hl : l.ok) : FnC prog 201 [l.av] (ajw (ayy l)) := by
 have hld := hl.ld
 refine gF0 func201 ?_
 refine gl ?_
 refine gC (fun ht12 => ?_) (fun ht12 => ?_)
 ·have h0 : 2 < l.drivers.length := amn ht12
  refine gE1 ?_
  unfold ayy; rw [if_pos h0]; rfl
 ·have h0 : l.drivers.length <= 2 := an4 ht12
  have e0 : ayy l = ad6 l.drivers.length (drE l):=by unfold ayy; rw [if_neg (by omega)]
  refine gl ?_
  refine gL1 [1,15,16] [1] (fun (i : Nat) => [(17,some (i64 i))]) (fun _ => []) (fun i => i <= l.drivers.length /\ ∀ j,j < i -> drE l j = 0) (fun i => l.drivers.length - i) 0 ⟨zero_le _,fun j h => by omega⟩ ?_
  rintro i ⟨hi,hj⟩ K1 hK1
  refine gC (fun ht18 => ?_) (fun ht18 => ?_)
  ·have hin := abo ht18
   obtain ⟨b,hb⟩ := ab9 hin
   have hbd : l.drivers.getD i default = b := aag hb
   have hbdup := afp Dr.name hb
   refine gi (aaf hb) ?_
   refine gc (afw b.name (hl.dnames b (mem_of_getElem? hb))) ?_
   refine gC (fun ht25 => ?_) (fun ht25 => ?_)
   ·have h1 := af0 ht25
    have e1 : drE l i = 5:=by unfold drE; rw [hbd,if_pos h1]
    refine gE1 ?_
    rw [e0,aa1 hin hj (by rw [e1]; decide),e1]; rfl
   ·have h1 := afu ht25
    refine gs (aap (.tmp rfl) (.none _) (.some _ (.tmp rfl) (by omega)) T24 rfl T190 rfl (by omega) (by simp only [length_map]; omega) rfl) ?_
    refine ge rfl ?_
    refine gL1 [1,3,4,15,16,17] [1,4] (fun (k : Nat) => [(30,some (.lst 2 ((l.drivers.take i).map Dr.av))),(31,some (i64 i)),(32,some (i64 k))]) (fun _ => []) (fun k => k <= i /\ (l.drivers.take k).any (fun y => eqS y.name b.name) = false) (fun k => i - k) 0 ⟨zero_le _,rfl⟩ ?_ (h1 := (.cons rfl (Sub.of (bie 2 Dr.av l.drivers i)) (.cons rfl (Sub.int (by simp; omega)) (.k .nil))))
    rintro k ⟨hk,hd⟩ K2 hK2
    refine gC (fun ht33 => ?_) (fun ht33 => ?_)
    ·have hkn := abo ht33
     obtain ⟨y,hy'⟩ : ∃ y,(l.drivers.take i)[k]? = some y := ab9 (by simp; omega)
     have hy := (alu hy').1
     refine gi (aaf hy') ?_
     refine gC (fun ht40 => ?_) (fun ht40 => ?_)
     ·have h2 : eqS y.name b.name = true := ht40
      have e1 : drE l i = 6:=by unfold drE; rw [hbd,if_neg (by rw [h1]; decide),if_pos (by rw [hbdup]; exact ahe hy hkn h2)]
      refine gE1 ?_
      rw [e0,aa1 hin hj (by rw [e1]; decide),e1]; rfl
     ·have h2 : eqS y.name b.name = false := ht40
      refine ga aau ?_
      exact gK1 hK2 (k + 1) ⟨hkn,aew hy hd h2⟩
    ·have hkn := aan hk ht33
     subst hkn
     have hnd : ¬ awg (l.drivers.map Dr.name) k = true:=by rw [hbdup,hd]; decide
     refine gl ?_
     refine gc (af9 b.body l.bodies.length) ?_
     refine gC (fun ht49 => ?_) (fun ht49 => ?_)
     ·have h3 := af0 ht49
      have e1 : drE l k = 9:=by unfold drE; rw [hbd,if_neg (by rw [h1]; decide),if_neg hnd,if_pos h3]
      refine gE1 ?_
      rw [e0,aa1 hin hj (by rw [e1]; decide),e1]; rfl
     ·have h3 := afu ht49
      refine gC (fun ht53 => ?_) (fun ht53 => ?_)
      ·have h4 := ae9 ht53
       have e1 : drE l k = 7:=by unfold drE; rw [hbd,if_neg (by rw [h1]; decide),if_neg hnd,if_neg (by rw [h3]; decide),if_pos h4]
       refine gE1 ?_
       rw [e0,aa1 hin hj (by rw [e1]; decide),e1]; rfl
      ·have h4 := afy ht53
       have e1 : drE l k = if (l.drivers.take k).any (fun d => decide (d.body = b.body)) = true then 6 else 0:=by unfold drE; rw [hbd,if_neg (by rw [h1]; decide),if_neg hnd,if_neg (by rw [h3]; decide),if_neg h4]
       refine gs (aap (.tmp rfl) (.none _) (.some _ (.tmp rfl) (by omega)) T24 rfl T190 rfl (by omega) (by simp only [length_map]; omega) rfl) ?_
       refine ge rfl ?_
       refine gL1 [1,4,15,16,17] [1,4] (fun (q : Nat) => [(58,some (.lst 2 ((l.drivers.take k).map Dr.av))),(59,some (i64 k)),(60,some (i64 q))]) (fun _ => []) (fun q => q <= k /\ (l.drivers.take q).any (fun d => decide (d.body = b.body)) = false) (fun q => k - q) 0 ⟨zero_le _,rfl⟩ ?_ (h1 := (.cons rfl (Sub.of (bie 2 Dr.av l.drivers k)) (.cons rfl (Sub.int (by simp; omega)) (.k .nil))))
       rintro q ⟨hq,hqd⟩ K3 hK3
       refine gC (fun ht61 => ?_) (fun ht61 => ?_)
       ·have hqn := abo ht61
        obtain ⟨y,hy'⟩ : ∃ y,(l.drivers.take k)[q]? = some y := ab9 (by simp; omega)
        have hy := (alu hy').1
        refine gi (aaf hy') ?_
        refine gC (fun ht68 => ?_) (fun ht68 => ?_)
        ·have h5 : decide (y.body = b.body) = true := decide_eq_true (ae9 ht68)
         have e2 : drE l k = 6:=by rw [e1,if_pos (ahe hy hqn h5)]
         refine gE1 ?_
         rw [e0,aa1 hin hj (by rw [e2]; decide),e2]; rfl
        ·have h5 : decide (y.body = b.body) = false := decide_eq_false (afy ht68)
         refine ga aau ?_
         exact gK1 hK3 (q + 1) ⟨hqn,aew hy hqd h5⟩
       ·have hqn := aan hq ht61
        subst hqn
        have e2 : drE l q = 0:=by rw [e1,hqd]; rfl
        refine ga aau ?_
        exact gK1 hK1 (q + 1) ⟨hin,fun j h9 => by rcases lt_or_ge j q with g | g; exact hj j g; (have : j = q:=by omega); subst this; exact e2⟩
  ·have hin := aan hi ht18
   subst hin
   refine gE1 ?_
   rw [e0,ael hj]; rfl
theorem ak2 (l : Li) (hl : l.ok) : FnC prog 102 [l.av] (ajw (liE l)) := by
 have hlb := hl.lb
 refine gF0 func102 ?_
 refine gc (afw l.name hl.name) ?_
 refine gC (fun ht8 => ?_) (fun ht8 => ?_)
 ·have h1 := af0 ht8
  refine gE1 ?_
  unfold liE; rw [if_pos h1]; rfl
 ·have h1 := afu ht8
  refine gl ?_
  refine gC (fun ht13 => ?_) (fun ht13 => ?_)
  ·have h2 := a69 ht13
   refine gE1 ?_
   unfold liE; rw [if_neg (by rw [h1]; decide),if_pos h2]; rfl
  ·have h2 := bc2 ht13
   refine gl ?_
   refine gC (fun ht18 => ?_) (fun ht18 => ?_)
   ·have h3 : 8 < l.bodies.length := amn ht18
    refine gE1 ?_
    unfold liE; rw [if_neg (by rw [h1]; decide),if_neg h2,if_pos h3]; rfl
   ·have h3 : l.bodies.length <= 8 := an4 ht18
    have e0 : liE l = if ayn l ≠ 0 then ayn l else if ao3 l ≠ 0 then ao3 l else ayy l:=by unfold liE; rw [if_neg (by rw [h1]; decide),if_neg h2,if_neg (by omega)]
    refine gc (aq3 l.bodies hl.bodies hlb) ?_
    refine gC (fun ht24 => ?_) (fun ht24 => ?_)
    ·have h4 : ayn l ≠ 0 := af6 ht24
     refine gE1 ?_
     rw [e0,if_pos h4]; rfl
    ·have h4 : ayn l = 0 := ae0 ht24
     refine gc (aq0 l hl) ?_
     refine gC (fun ht29 => ?_) (fun ht29 => ?_)
     ·have h5 := af6 ht29
      refine gE1 ?_
      rw [e0,if_neg (by rw [h4]; simp),if_pos h5]
     ·have h5 := ae0 ht29
      refine gc (aqr l hl) ?_
      refine gE1 ?_
      rw [e0,if_neg (by rw [h4]; simp),if_neg (by rw [h5]; simp)]
end Go.Lw
namespace Go.Lw
open Go.Proofs
theorem aff (i : Int) (n : Nat) : FnC prog 173 [i64 i, i64 n] (bl (inB i n)) := by
 refine gF0 func173 ?_
 refine gE1 ?_
 exact congrArg bl (a0s i n)
theorem a12 (p q : Mk) (hp : p.ok) (hq : q.ok) : FnC prog 174 [p.av, q.av] (bl (decide (p.x.q = q.x.q /\ p.y.q = q.y.q))) := by
 refine gF0 func174 ?_
 refine gc (aul p.x q.x hp.x hq.x ((hp.qx.sub hq.qx).qs (by omega))) ?_
 refine gcG (fun _ => (aul p.y q.y hp.y hq.y ((hp.qy.sub hq.qy).qs (by omega)))) ?_
 refine gE1 ?_
 exact congrArg bl a9w
theorem aup (b : Bd) (hbo : b.ok) : FnC prog 172 [b.av] (i64 (if 8 < b.pts.length then 4 else ad6 b.pts.length (mkE b.pts) : Nat)) := by
 have hll := hbo.ll
 refine gF0 func172 ?_
 refine gl ?_
 refine gC (fun ht9 => ?_) (fun ht9 => ?_)
 ·have h0 : 8 < b.pts.length := amn ht9
  refine gE1 ?_
  rw [if_pos h0]; rfl
 ·have h0 : b.pts.length <= 8 := an4 ht9
  have e0 : (if 8 < b.pts.length then 4 else ad6 b.pts.length (mkE b.pts) : Nat) = ad6 b.pts.length (mkE b.pts) := if_neg (by omega)
  refine gL1 [1] [1] (fun (p : Nat) => [(3,some (i64 p))]) (fun _ => []) (fun p => p <= b.pts.length /\ ∀ j,j < p -> mkE b.pts j = 0) (fun p => b.pts.length - p) 0 ⟨zero_le _,fun j h => by omega⟩ ?_
  rintro p ⟨hp,hpj⟩ K1 hK1
  refine gl ?_
  refine gC (fun ht14 => ?_) (fun ht14 => ?_)
  ·have hpn := abo ht14
   obtain ⟨m,hm⟩ := ab9 hpn
   have hmd : b.pts.getD p default = m := aag hm
   have hmm := mem_of_getElem? hm
   have hmdup := afp Mk.name hm
   have hmo := hbo.pts m hmm
   refine gi (aaf hm) ?_
   refine gc (ahu m.name (hbo.names m hmm)) ?_
   refine gC (fun ht25 => ?_) (fun ht25 => ?_)
   ·have h4 := af0 ht25
    have e2 : mkE b.pts p = 5:=by unfold mkE; rw [hmd,if_pos h4]
    refine gE1 ?_
    rw [e0,aa1 hpn hpj (by rw [e2]; decide),e2]; rfl
   ·have h4 := afu ht25
    refine gL1 [1,3,4] [1,4] (fun (q : Nat) => [(5,some (i64 q))]) (fun _ => []) (fun q => q <= p /\ (b.pts.take q).any (fun y => eqS y.name m.name) = false) (fun q => p - q) 0 ⟨zero_le _,rfl⟩ ?_
    rintro q ⟨hq,hqd⟩ K2 hK2
    refine gC (fun ht28 => ?_) (fun ht28 => ?_)
    ·have hqn := abo ht28
     obtain ⟨y,hy⟩ : ∃ y,b.pts[q]? = some y := ab9 (by omega)
     refine gi (aaf hy) ?_
     refine gD ?_
     refine gC (fun ht39 => ?_) (fun ht39 => ?_)
     ·have h5 : eqS y.name m.name = true := ht39
      have e2 : mkE b.pts p = 6:=by unfold mkE; rw [hmd,if_neg (by rw [h4]; decide),if_pos (by rw [hmdup]; exact ahe hy hqn h5)]
      refine gE1 ?_
      rw [e0,aa1 hpn hpj (by rw [e2]; decide),e2]; rfl
     ·have h5 : eqS y.name m.name = false := ht39
      refine ga aau ?_
      exact gK1 hK2 (q + 1) ⟨hqn,aew hy hqd h5⟩
    ·have hqn := aan hq ht28
     subst hqn
     have hmnd : ¬ awg (b.pts.map Mk.name) q = true:=by rw [hmdup,hqd]; decide
     refine gc (ah1 m.x hmo.x) ?_
     refine gcG (fun _ => (ah1 m.y hmo.y)) ?_
     refine gC (fun ht49 => ?_) (fun ht49 => ?_)
     ·have h6 := bg8 ht49
      have e2 : mkE b.pts q = 3:=by unfold mkE; rw [hmd,if_neg (by rw [h4]; decide),if_neg hmnd,if_neg (by rintro ⟨g1,g2⟩; rcases h6 with g | g; (rw [g1] at g; cases g); (rw [g2] at g; cases g))]
      refine gE1 ?_
      rw [e0,aa1 hpn hpj (by rw [e2]; decide),e2]; rfl
     ·have h6 := bey ht49
      have e2 : mkE b.pts q = 0:=by unfold mkE; rw [hmd,if_neg (by rw [h4]; decide),if_neg hmnd,if_pos h6]
      refine ga aau ?_
      exact gK1 hK1 (q + 1) ⟨hpn,fun j h9 => by rcases lt_or_ge j q with g | g; exact hpj j g; (have : j = q:=by omega); subst this; exact e2⟩
  ·have hpn := aan hp ht14
   subst hpn
   refine gE1 ?_
   rw [e0,ael hpj]; rfl
theorem awl (l : Li) (hl : l.ok) : FnC prog 75 [l.av] (i64 (ayn l)) := by
 have hlb := hl.lb
 have e0 : ayn l = ad6 l.bodies.length (bdE l.bodies) := rfl
 refine gF0 func75 ?_
 refine gL1 [1] [1] (fun (i : Nat) => [(3,some (i64 i))]) (fun _ => []) (fun i => i <= l.bodies.length /\ ∀ j,j < i -> bdE l.bodies j = 0) (fun i => l.bodies.length - i) 0 ⟨zero_le _,fun j h => by omega⟩ ?_
 rintro i ⟨hi,hj⟩ K1 hK1
 refine gl ?_
 refine gC (fun ht10 => ?_) (fun ht10 => ?_)
 ·have hin := abo ht10
  obtain ⟨b,hb⟩ := ab9 hin
  have hbd : l.bodies.getD i default = b := aag hb
  have hbo := hl.bodies b (mem_of_getElem? hb)
  have hbdup := afp Bd.name hb
  refine gi (aaf hb) ?_
  refine gc (ahu b.name hbo.name) ?_
  refine gC (fun ht20 => ?_) (fun ht20 => ?_)
  ·have h1 := af0 ht20
   have e1 : bdE l.bodies i = 5:=by unfold bdE; rw [hbd,if_pos h1]
   refine gE1 ?_
   rw [e0,aa1 hin hj (by rw [e1]; decide),e1]; rfl
  ·have h1 := afu ht20
   refine gL1 [1,3] [1] (fun (k : Nat) => [(4,some (i64 k))]) (fun _ => []) (fun k => k <= i /\ (l.bodies.take k).any (fun y => eqS y.name b.name) = false) (fun k => i - k) 0 ⟨zero_le _,rfl⟩ ?_
   rintro k ⟨hk,hd⟩ K2 hK2
   refine gC (fun ht23 => ?_) (fun ht23 => ?_)
   ·have hkn := abo ht23
    obtain ⟨y,hy⟩ : ∃ y,l.bodies[k]? = some y := ab9 (by omega)
    refine gi (aaf hy) ?_
    refine gi (aaf hb) ?_
    refine gD ?_
    refine gC (fun ht38 => ?_) (fun ht38 => ?_)
    ·have h2 : eqS y.name b.name = true := ht38
     have e1 : bdE l.bodies i = 6:=by unfold bdE; rw [hbd,if_neg (by rw [h1]; decide),if_pos (by rw [hbdup]; exact ahe hy hkn h2)]
     refine gE1 ?_
     rw [e0,aa1 hin hj (by rw [e1]; decide),e1]; rfl
    ·have h2 : eqS y.name b.name = false := ht38
     refine ga aau ?_
     exact gK1 hK2 (k + 1) ⟨hkn,aew hy hd h2⟩
   ·have hkn := aan hk ht23
    subst hkn
    have hnd : ¬ awg (l.bodies.map Bd.name) k = true:=by rw [hbdup,hd]; decide
    have e1 : bdE l.bodies k = if 8 < b.pts.length then 4 else ad6 b.pts.length (mkE b.pts):=by unfold bdE; rw [hbd,if_neg (by rw [h1]; decide),if_neg hnd]
    refine gi (aaf hb) ?_
    refine gc (aup b hbo) ?_
    refine gC (fun ht46 => ?_) (fun ht46 => ?_)
    ·have h3 := aif ht46
     refine gE1 ?_
     rw [e0,aa1 hin hj (by rw [e1]; exact h3),e1]
    ·have h3 := aie ht46
     refine ga aau ?_
     exact gK1 hK1 (k + 1) ⟨hin,fun j h9 => by rcases lt_or_ge j k with g | g; exact hj j g; (have : j = k:=by omega); subst this; exact e1.trans h3⟩
 ·have hin := aan hi ht10
  subst hin
  refine gE1 ?_
  rw [e0,ael hj]; rfl
theorem ay7 (l : Li) (hl : l.ok) (i : Nat) (hi : i < l.joints.length) (h16 : l.joints.length <= 16) : FnC prog 76 [l.av, i64 i] (i64 (jtE l i)) := by
 obtain ⟨j,hjj⟩ := ab9 hi
 have hbd : l.joints.getD i default = j := aag hjj
 have hbdup := afp Jt.name hjj
 refine gF0 func76 ?_
 refine gi (aaf hjj) ?_
 refine gc (ahu j.name (hl.jnames j (mem_of_getElem? hjj))) ?_
 refine gC (fun ht17 => ?_) (fun ht17 => ?_)
 ·have h0 := af0 ht17
  refine gE1 ?_
  unfold jtE; rw [hbd,if_pos h0]; rfl
 ·have h0 := afu ht17
  refine gL1 [1,2,5] [2,5] (fun (k : Nat) => [(6,some (i64 k))]) (fun _ => []) (fun k => k <= i /\ (l.joints.take k).any (fun y => eqS y.name j.name) = false) (fun k => i - k) 0 ⟨zero_le _,rfl⟩ ?_
  rintro k ⟨hk,hd⟩ K1 hK1
  refine gC (fun ht20 => ?_) (fun ht20 => ?_)
  ·have hkn := abo ht20
   obtain ⟨y,hy⟩ : ∃ y,l.joints[k]? = some y := ab9 (by omega)
   refine gi (aaf hy) ?_
   refine gD ?_
   refine gC (fun ht31 => ?_) (fun ht31 => ?_)
   ·have h2 : eqS y.name j.name = true := ht31
    refine gE1 ?_
    unfold jtE; rw [hbd,if_neg (by rw [h0]; decide),if_pos (by rw [hbdup]; exact ahe hy hkn h2)]; rfl
   ·have h2 : eqS y.name j.name = false := ht31
    refine ga aau ?_
    exact gK1 hK1 (k + 1) ⟨hkn,aew hy hd h2⟩
  ·have hkn := aan hk ht20
   subst hkn
   have hnd : ¬ awg (l.joints.map Jt.name) k = true:=by rw [hbdup,hd]; decide
   have e1 : jtE l k = jt0 l j:=by unfold jtE; rw [hbd,if_neg (by rw [h0]; decide),if_neg hnd]
   refine gC (fun ht39 => ?_) (fun ht39 => ?_)
   ·have h1 := bc9 ht39
    refine gE1 ?_
    rw [e1]; unfold jt0; rw [if_pos h1]; rfl
   ·have h1 := bdf ht39
    refine gl ?_
    refine gc (aff j.a l.bodies.length) ?_
    refine glG ?_
    refine gcG (fun _ => (aff j.b l.bodies.length)) ?_
    refine gC (fun ht55 => ?_) (fun ht55 => ?_)
    ·have h2 := bg8 ht55
     refine gE1 ?_
     rw [e1]; unfold jt0; rw [if_neg h1,if_pos h2]; rfl
    ·have h2 := bey ht55
     have h2n : ¬ (inB j.a l.bodies.length = false \/ inB j.b l.bodies.length = false):=by rw [h2.1,h2.2]; simp
     obtain ⟨A,hA,pA,mA,zA0⟩ := ars h2.1
     obtain ⟨B,hB,pB,mB,zB0⟩ := ars h2.2
     refine gC (fun ht60 => ?_) (fun ht60 => ?_)
     ·have h3 := ae9 ht60
      refine gE1 ?_
      rw [e1]; unfold jt0; rw [if_neg h1,if_neg h2n,if_pos h3]; rfl
     ·have h3 := afy ht60
      refine gi (aaf hA) ?_
      refine gi (aaf hB) ?_
      refine gD ?_
      refine gl ?_
      refine gc (aff j.point A.pts.length) ?_
      refine glG ?_
      refine gcG (fun _ => (aff j.on B.pts.length)) ?_
      refine gC (fun ht88 => ?_) (fun ht88 => ?_)
      ·have h4 := bg8 ht88
       refine gE1 ?_
       rw [e1]; unfold jt0; rw [if_neg h1,if_neg h2n,if_neg h3,pA,pB,if_pos h4]; rfl
      ·have h4 := bey ht88
       have h4n : ¬ (inB j.point A.pts.length = false \/ inB j.on B.pts.length = false):=by rw [h4.1,h4.2]; simp
       refine gC (fun ht91 => ?_) (fun ht91 => ?_)
       ·have h5 := ae9 ht91
        refine gC (fun ht94 => ?_) (fun ht94 => ?_)
        ·have h6 := a09 ht94
         refine gE1 ?_
         rw [e1]; unfold jt0; rw [if_neg h1,if_neg h2n,if_neg h3,pA,pB,if_neg h4n,if_pos h5,if_pos h6]; rfl
        ·have h6 := bcu ht94
         refine gE1 ?_
         rw [e1]; unfold jt0; rw [if_neg h1,if_neg h2n,if_neg h3,pA,pB,if_neg h4n,if_pos h5,if_neg (by rw [h6]; simp)]; rfl
       ·have h5 := afy ht91
        refine gl ?_
        refine gc (aff j.to B.pts.length) ?_
        refine gC (fun ht100 => ?_) (fun ht100 => ?_)
        ·have h6 := af0 ht100
         refine gE1 ?_
         rw [e1]; unfold jt0; rw [if_neg h1,if_neg h2n,if_neg h3,pA,pB,if_neg h4n,if_neg h5,if_pos h6]; rfl
        ·have h6 := afu ht100
         obtain ⟨m1,g1,d1,mm1,z1⟩ := aw4 h4.2
         obtain ⟨m2,g2,d2,mm2,z2⟩ := aw4 h6
         have mo1 := (hl.bodies B mB).pts m1 mm1
         have mo2 := (hl.bodies B mB).pts m2 mm2
         refine gi (aaf g1) ?_
         refine gi (aaf g2) ?_
         refine gc (a12 m1 m2 mo1 mo2) ?_
         refine gD ?_
         refine gC (fun ht111 => ?_) (fun ht111 => ?_)
         ·have h7 := of_decide_eq_true ht111
          refine gE1 ?_
          rw [e1]; unfold jt0; rw [if_neg h1,if_neg h2n,if_neg h3,pA,pB,if_neg h4n,if_neg h5,if_neg (by rw [h6]; decide),d1,d2,if_pos h7]; rfl
         ·have h7 := of_decide_eq_false ht111
          refine gE1 ?_
          rw [e1]; unfold jt0; rw [if_neg h1,if_neg h2n,if_neg h3,pA,pB,if_neg h4n,if_neg h5,if_neg (by rw [h6]; decide),d1,d2,if_neg h7]; rfl
theorem aw5 (l : Li) (hl : l.ok) (i : Nat) (hi : i < l.drivers.length) (h2l : l.drivers.length <= 2) : FnC prog 77 [l.av, i64 i] (i64 (drE l i)) := by
 obtain ⟨b,hb⟩ := ab9 hi
 have hbd : l.drivers.getD i default = b := aag hb
 have hbdup := afp Dr.name hb
 refine gF0 func77 ?_
 refine gi (aaf hb) ?_
 refine gc (ahu b.name (hl.dnames b (mem_of_getElem? hb))) ?_
 refine gC (fun ht16 => ?_) (fun ht16 => ?_)
 ·have h1 := af0 ht16
  refine gE1 ?_
  unfold drE; rw [hbd,if_pos h1]; rfl
 ·have h1 := afu ht16
  refine gL1 [1,2,5] [2,5] (fun (k : Nat) => [(6,some (i64 k))]) (fun _ => []) (fun k => k <= i /\ (l.drivers.take k).any (fun y => eqS y.name b.name) = false) (fun k => i - k) 0 ⟨zero_le _,rfl⟩ ?_
  rintro k ⟨hk,hd⟩ K1 hK1
  refine gC (fun ht19 => ?_) (fun ht19 => ?_)
  ·have hkn := abo ht19
   obtain ⟨y,hy⟩ : ∃ y,l.drivers[k]? = some y := ab9 (by omega)
   refine gi (aaf hy) ?_
   refine gD ?_
   refine gC (fun ht30 => ?_) (fun ht30 => ?_)
   ·have h2 : eqS y.name b.name = true := ht30
    refine gE1 ?_
    unfold drE; rw [hbd,if_neg (by rw [h1]; decide),if_pos (by rw [hbdup]; exact ahe hy hkn h2)]; rfl
   ·have h2 : eqS y.name b.name = false := ht30
    refine ga aau ?_
    exact gK1 hK1 (k + 1) ⟨hkn,aew hy hd h2⟩
  ·have hkn := aan hk ht19
   subst hkn
   have hnd : ¬ awg (l.drivers.map Dr.name) k = true:=by rw [hbdup,hd]; decide
   refine gl ?_
   refine gc (aff b.body l.bodies.length) ?_
   refine gC (fun ht37 => ?_) (fun ht37 => ?_)
   ·have h3 := af0 ht37
    refine gE1 ?_
    unfold drE; rw [hbd,if_neg (by rw [h1]; decide),if_neg hnd,if_pos h3]; rfl
   ·have h3 := afu ht37
    refine gC (fun ht40 => ?_) (fun ht40 => ?_)
    ·have h4 := ae9 ht40
     refine gE1 ?_
     unfold drE; rw [hbd,if_neg (by rw [h1]; decide),if_neg hnd,if_neg (by rw [h3]; decide),if_pos h4]; rfl
    ·have h4 := afy ht40
     have e1 : drE l k = if (l.drivers.take k).any (fun d => decide (d.body = b.body)) = true then 6 else 0:=by unfold drE; rw [hbd,if_neg (by rw [h1]; decide),if_neg hnd,if_neg (by rw [h3]; decide),if_neg h4]
     refine gL1 [1,2,5] [2,5] (fun (q : Nat) => [(7,some (i64 q))]) (fun _ => []) (fun q => q <= k /\ (l.drivers.take q).any (fun d => decide (d.body = b.body)) = false) (fun q => k - q) 0 ⟨zero_le _,rfl⟩ ?_
     rintro q ⟨hq,hqd⟩ K2 hK2
     refine gC (fun ht43 => ?_) (fun ht43 => ?_)
     ·have hqn := abo ht43
      obtain ⟨y,hy⟩ : ∃ y,l.drivers[q]? = some y := ab9 (by omega)
      refine gi (aaf hy) ?_
      refine gD ?_
      refine gC (fun ht54 => ?_) (fun ht54 => ?_)
      ·have h5 : decide (y.body = b.body) = true := decide_eq_true (ae9 ht54)
       refine gE1 ?_
       rw [e1,if_pos (ahe hy hqn h5)]; rfl
      ·have h5 : decide (y.body = b.body) = false := decide_eq_false (afy ht54)
       refine ga aau ?_
       exact gK1 hK2 (q + 1) ⟨hqn,aew hy hqd h5⟩
     ·have hqn := aan hq ht43
      subst hqn
      refine gE1 ?_
      rw [e1,hqd]; rfl
theorem azb (l : Li) (hl : l.ok) : FnC prog 14 [l.av] (i64 (liE l)) := by
 have hlb := hl.lb
 refine gF0 func14 ?_
 refine gc (ahu l.name hl.name) ?_
 refine gC (fun ht11 => ?_) (fun ht11 => ?_)
 ·have h1 := af0 ht11
  refine gE1 ?_
  unfold liE; rw [if_pos h1]; rfl
 ·have h1 := afu ht11
  refine gl ?_
  refine gC (fun ht15 => ?_) (fun ht15 => ?_)
  ·have h2 := a69 ht15
   refine gE1 ?_
   unfold liE; rw [if_neg (by rw [h1]; decide),if_pos h2]; rfl
  ·have h2 := bc2 ht15
   refine gl ?_
   refine gC (fun ht19 => ?_) (fun ht19 => ?_)
   ·have h3 : 8 < l.bodies.length := amn ht19
    refine gE1 ?_
    unfold liE; rw [if_neg (by rw [h1]; decide),if_neg h2,if_pos h3]; rfl
   ·have h3 : l.bodies.length <= 8 := an4 ht19
    have e0 : liE l = if ayn l ≠ 0 then ayn l else if ao3 l ≠ 0 then ao3 l else ayy l:=by unfold liE; rw [if_neg (by rw [h1]; decide),if_neg h2,if_neg (by omega)]
    refine gc (awl l hl) ?_
    refine gC (fun ht23 => ?_) (fun ht23 => ?_)
    ·have h4 : ayn l ≠ 0 := aif ht23
     refine gE1 ?_
     rw [e0,if_pos h4]
    ·have h4 : ayn l = 0 := aie ht23
     refine gl ?_
     refine gC (fun ht28 => ?_) (fun ht28 => ?_)
     ·have h5 : 16 < l.joints.length := amn ht28
      have ej : ao3 l = 4:=by unfold ao3; rw [if_pos h5]
      refine gE1 ?_
      rw [e0,if_neg (by rw [h4]; simp),if_pos (by rw [ej]; decide),ej]; rfl
     ·have h5 : l.joints.length <= 16 := an4 ht28
      have ej : ao3 l = ad6 l.joints.length (jtE l):=by unfold ao3; rw [if_neg (by omega)]
      refine gL1 [1] [1] (fun (i : Nat) => [(4,some (i64 i))]) (fun _ => []) (fun i => i <= l.joints.length /\ ∀ j,j < i -> jtE l j = 0) (fun i => l.joints.length - i) 0 ⟨zero_le _,fun j h => by omega⟩ ?_
      rintro i ⟨hi,hj⟩ K1 hK1
      refine gl ?_
      refine gC (fun ht33 => ?_) (fun ht33 => ?_)
      ·have hin := abo ht33
       refine gc (ay7 l hl i hin h5) ?_
       refine gC (fun ht40 => ?_) (fun ht40 => ?_)
       ·have h6 := aif ht40
        refine gE1 ?_
        rw [e0,if_neg (by rw [h4]; simp),if_pos (by rw [ej,aa1 hin hj h6]; exact h6),ej,aa1 hin hj h6]
       ·have h6 := aie ht40
        refine ga aau ?_
        exact gK1 hK1 (i + 1) ⟨hin,fun j h9 => by rcases lt_or_ge j i with g | g; exact hj j g; (have : j = i:=by omega); subst this; exact h6⟩
      ·have hin := aan hi ht33
       subst hin
       have ejz : ao3 l = 0 := ej.trans (ael hj)
       have e0' : liE l = ayy l:=by rw [e0,if_neg (by rw [h4]; simp),if_neg (by rw [ejz]; simp)]
       refine gl ?_
       refine gC (fun ht45 => ?_) (fun ht45 => ?_)
       ·have h6 : 2 < l.drivers.length := amn ht45
        refine gE1 ?_
        rw [e0']; unfold ayy; rw [if_pos h6]; rfl
       ·have h6 : l.drivers.length <= 2 := an4 ht45
        have ed : ayy l = ad6 l.drivers.length (drE l):=by unfold ayy; rw [if_neg (by omega)]
        refine gL1 [1] [1] (fun (k : Nat) => [(6,some (i64 k))]) (fun _ => []) (fun k => k <= l.drivers.length /\ ∀ j,j < k -> drE l j = 0) (fun k => l.drivers.length - k) 0 ⟨zero_le _,fun j h => by omega⟩ ?_
        rintro k ⟨hk,hkj⟩ K2 hK2
        refine gl ?_
        refine gC (fun ht50 => ?_) (fun ht50 => ?_)
        ·have hkn := abo ht50
         refine gc (aw5 l hl k hkn h6) ?_
         refine gC (fun ht57 => ?_) (fun ht57 => ?_)
         ·have h7 := aif ht57
          refine gE1 ?_
          rw [e0',ed,aa1 hkn hkj h7]
         ·have h7 := aie ht57
          refine ga aau ?_
          exact gK1 hK2 (k + 1) ⟨hkn,fun j h9 => by rcases lt_or_ge j k with g | g; exact hkj j g; (have : j = k:=by omega); subst this; exact h7⟩
        ·have hkn := aan hk ht50
         subst hkn
         refine gE1 ?_
         rw [e0',ed,ael hkj]; rfl
end Go.Lw
namespace Go.Lw
open Go.Proofs
theorem akj (rs xs : List (List Rt)) (w m : Nat) (hrs : aqx rs) (hxs : aqx xs) (hrl : rs.length <= 100) (hxl : xs.length <= 100) : FnC prog 143 [agh rs, i64 w, i64 m, .lst 1 (xs.map nR)] (bl (al7 w m (rs ++ xs))) := by
 obtain ⟨l,hl⟩ : ∃ l,l = rs ++ xs := ⟨_,rfl⟩
 have hlo : aqx l:=by rw [hl]; exact hrs.app hxs
 have hll : l.length <= 200:=by rw [hl,length_append]; omega
 have hml : rs.map nR ++ xs.map nR = l.map nR:=by rw [hl,map_append]
 rw [<- hl]
 refine gF0 func143 ?_
 refine gs (acu T27 rfl T38 rfl rfl rfl) ?_
 refine gs (abt (.tmp rfl) rfl rfl (.tmp rfl) T27 rfl T38 rfl rfl (by simp only [length_map]; omega) rfl rfl) ?_
 refine gs (agq (.tmp rfl) rfl (by simp) (.tmp rfl) T27 rfl T38 rfl rfl (by simp only [length_map]; omega) rfl rfl) ?_
 refine ge rfl ?_
 refine gL1 [1,2] [] (fun (i : Nat) => [(18,some (.lst 1 (l.map nR))),(19,some (i64 l.length)),(20,some (i64 i))]) (fun _ => []) (fun i => i <= l.length /\ (l.take i).all (al3 w m) = true) (fun i => l.length - i) 0 ⟨zero_le _,rfl⟩ ?_ (h1 := (.cons rfl (Sub.of (congrArg (AV.lst 1) hml)) (.cons rfl (Sub.int (by rw [nil_append,hml,length_map])) (.k .nil))))
 rintro i ⟨hi,hj⟩ K1 hK1
 refine gC (fun ht21 => ?_) (fun ht21 => ?_)
 ·have hin := abo ht21
  obtain ⟨x,hx⟩ := ab9 hin
  have hxo := hlo x (mem_of_getElem? hx)
  have hxl := hxo.2
  refine gi (aaf hx) ?_
  refine gl ?_
  refine gC (fun ht27 => ?_) (fun ht27 => ?_)
  ·have h1 := amn ht27
   refine gE1 ?_
   rw [al7,air hx (by unfold al3; rw [decide_eq_false (by omega)]; rfl)]; rfl
  ·have h1 : x.length <= m := an4 ht27
   refine gl ?_
   refine gL1 [1,2,18,19,20,28,29] [] (fun (k : Nat) => [(30,some (i64 k))]) (fun _ => []) (fun k => k <= x.length /\ (x.take k).all (fun r => decide (r.num.length <= w /\ r.den.length <= w)) = true) (fun k => x.length - k) 0 ⟨zero_le _,rfl⟩ ?_
   rintro k ⟨hk,hkj⟩ K2 hK2
   refine gC (fun ht31 => ?_) (fun ht31 => ?_)
   ·have hkn := abo ht31
    obtain ⟨r,hr⟩ := ab9 hkn
    refine gi (aaf hr) ?_
    refine gl ?_
    refine glG ?_
    refine gC (fun ht45 => ?_) (fun ht45 => ?_)
    ·have h2 : ¬ (r.num.length <= w /\ r.den.length <= w) := bjq ht45
     refine gE1 ?_
     rw [al7,air hx (by unfold al3; rw [air hr (decide_eq_false h2),Bool.and_false])]; rfl
    ·have h2 : r.num.length <= w /\ r.den.length <= w := bi2 ht45
     refine ga aau ?_
     exact gK1 hK2 (k + 1) ⟨hkn,alz hkj hr (decide_eq_true h2)⟩
   ·have hkn := aan hk ht31
    refine ga aau ?_
    exact gK1 hK1 (i + 1) ⟨hin,alz hj hx (by unfold al3; rw [decide_eq_true h1,aok hkn hkj]; rfl)⟩
 ·have hin := aan hi ht21
  refine gE1 ?_
  rw [al7,aok hin hj]; rfl
theorem aqf (rs xs : List (List Rt)) (hrs : aqx rs) (hxs : aqx xs) (hrl : rs.length <= 281474976710656) (hxl : xs.length <= 100) : FnC prog 55 [agh rs, .lst 1 (xs.map nR)] (bl (aht rs xs)) := by
 refine gF0 func55 ?_
 refine gl ?_
 refine gC (fun ht9 => ?_) (fun ht9 => ?_)
 ·have h1 : rs.length <= 1 \/ (5 < rs.length /\ rs.length <= 8) := bnf ht9
  refine gc (akj rs xs 3 40 hrs hxs (by omega) hxl) ?_
  refine gE1 ?_
  unfold aht; rw [if_pos h1]
 ·have h1 : ¬ (rs.length <= 1 \/ (5 < rs.length /\ rs.length <= 8)) := bnu ht9
  refine gC (fun ht23 => ?_) (fun ht23 => ?_)
  ·have h2 : rs.length = 2 := by have := ae9 ht23; omega
   refine gc (akj rs xs 1 40 hrs hxs (by omega) hxl) ?_
   refine gE1 ?_
   unfold aht; rw [if_neg h1,if_pos h2]
  ·have h2 : ¬ rs.length = 2 := by have := afy ht23; omega
   refine gC (fun ht29 => ?_) (fun ht29 => ?_)
   ·have h3 : rs.length = 3 := by have := ae9 ht29; omega
    refine gc (akj rs xs 1 4 hrs hxs (by omega) hxl) ?_
    refine gE1 ?_
    unfold aht; rw [if_neg h1,if_neg h2,if_pos h3]
   ·have h3 : ¬ rs.length = 3 := by have := afy ht29; omega
    refine gE1 ?_
    unfold aht; rw [if_neg h1,if_neg h2,if_neg h3]; rfl
theorem axt (l : Li) (hl : l.okw) : FnC prog 10 [l.av] (bl (liB l)) := by
 have hbl := hl.lb
 refine gF0 func10 ?_
 refine gl ?_
 refine gL1 [1,8,9] [1] (fun (i : Nat) => [(10,some (i64 i))]) (fun _ => []) (fun i => i <= l.bodies.length /\ (l.bodies.take i).all bdB = true) (fun i => l.bodies.length - i) 0 ⟨zero_le _,rfl⟩ ?_
 rintro i ⟨hi,hj⟩ K1 hK1
 refine gC (fun ht11 => ?_) (fun ht11 => ?_)
 ·have hin := abo ht11
  obtain ⟨b,hb⟩ := ab9 hin
  refine gi (aaf hb) ?_
  refine gl ?_
  refine gC (fun ht17 => ?_) (fun ht17 => ?_)
  ·have h1 : 30 < b.pts.length := amn ht17
   refine gE1 ?_
   unfold liB; rw [air hb (by unfold bdB; rw [decide_eq_false (by omega)]; rfl)]; rfl
  ·have h1 : b.pts.length <= 30 := an4 ht17
   refine gl ?_
   refine gL1 [1,8,9,10,19,20] [1] (fun (k : Nat) => [(21,some (i64 k))]) (fun _ => []) (fun k => k <= b.pts.length /\ (b.pts.take k).all mkB = true) (fun k => b.pts.length - k) 0 ⟨zero_le _,rfl⟩ ?_
   rintro k ⟨hk,hkj⟩ K2 hK2
   refine gC (fun ht22 => ?_) (fun ht22 => ?_)
   ·have hkn := abo ht22
    obtain ⟨p,hp⟩ := ab9 hkn
    refine gi (aaf hp) ?_
    refine gl ?_
    refine glG ?_
    refine glG ?_
    refine glG ?_
    refine gC (fun ht50 => ?_) (fun ht50 => ?_)
    ·have h2 : mkB p = false := bh2 ht50
     refine gE1 ?_
     unfold liB; rw [air hb (by unfold bdB; rw [air hp h2,Bool.and_false])]; rfl
    ·have h2 : mkB p = true := bhs ht50
     refine ga aau ?_
     exact gK1 hK2 (k + 1) ⟨hkn,alz hkj hp h2⟩
   ·have hkn := aan hk ht22
    refine ga aau ?_
    exact gK1 hK1 (i + 1) ⟨hin,alz hj hb (by unfold bdB; rw [decide_eq_true h1,aok hkn hkj]; rfl)⟩
 ·have hin := aan hi ht11
  refine gl ?_
  refine glG ?_
  refine glG ?_
  refine gE1 ?_
  exact congrArg bl (bed (aok hin hj))
end Go.Lw
namespace Go.Lw
open Go.Proofs
theorem ax9 : FnC prog 16 [.v .nilIface] (i64 0) := by
 refine gF0 func16 ?_
 refine gC (fun ht6 => ?_) (fun ht6 => ?_) (st2 := (77777,0))
 ·refine gE1 ?_
  first | rfl | (simp; done)
 ·cases ht6
theorem axb (n : Int) : FnC prog 16 [.v (.iface 66 (.int .i64 n))] (i64 n) := by
 refine gF0 func16 ?_
 refine gC (fun ht6 => ?_) (fun ht6 => ?_) (st1 := (2,0))
 ·cases ht6
 ·refine gs (ban (.tmp rfl) T66 rfl rfl) ?_
  refine gC (fun ht13 => ?_) (fun ht13 => ?_) (st1 := (5,0))
  ·cases ht13
  ·refine gE1 ?_
   rfl
theorem arh (e : Nat) : FnC prog 16 [ajw e] (i64 e) := by
 cases e with
 | zero => exact ax9
 | succ e => exact axb _
end Go.Lw
namespace Go.Lw
structure Gr where
  kind : Int
  bodies : List Int
  joints : List Int
  driver : Int
instance : Inhabited Gr := ⟨⟨0,[],[],0⟩⟩
def Gr.av (g : Gr) : AV := .agg [i64 g.kind,.lst 1 (g.bodies.map i64),.lst 1 (g.joints.map i64),i64 g.driver]
def kn (k : List Bool) (i : Int) : Bool := k.getD i.toNat false
def aeg (n : Nat) (b : Int) : List Bool := (List.replicate n false).set b.toNat true
def amz (l : Li) (b : Int) : Bool := l.drivers.any (fun d => decide (d.body = b))
def ahh (l : Li) (known : List Bool) (b : Int) : Bool := !kn known b && !amz l b
def a9o (kind body : Int) (oth : List Bool) (j : Jt) : Bool := decide (j.kind = kind) && (decide (j.a = body) && kn oth j.b || decide (j.b = body) && kn oth j.a)
def abg (l : Li) (kind body : Int) (oth : List Bool) : Int := ixI (acw l.joints.length (fun i => !a9o kind body oth (l.joints.getD i default)))
def aix (l : Li) (known : List Bool) (i : Nat) : Bool := !kn known (l.drivers.getD i default).body && decide (0 <= abg l 0 (l.drivers.getD i default).body known)
def ab2 (l : Li) (known : List Bool) : Option Gr :=
  (acw l.drivers.length (fun i => !aix l known i)).map fun i => ⟨0,[(l.drivers.getD i default).body],[abg l 0 (l.drivers.getD i default).body known],i⟩
def ae5 (l : Li) (known : List Bool) (i k : Nat) : Bool :=
  (ahh l known i && ahh l known k) && (decide (0 <= abg l 0 i known) && decide (0 <= abg l 0 k known) && decide (0 <= abg l 0 i (aeg l.bodies.length k)))
def aza (l : Li) (known : List Bool) (i : Nat) : Option Nat := (acw (l.bodies.length - (i + 1)) (fun k => !ae5 l known i (i + 1 + k))).map (· + (i + 1))
def prG (l : Li) (known : List Bool) (i k : Nat) : Gr := ⟨1,[i,k],[abg l 0 i known,abg l 0 k known,abg l 0 i (aeg l.bodies.length k)],0⟩
def aev (l : Li) (known : List Bool) : Option Gr :=
  (acw l.bodies.length (fun i => (aza l known i).isNone)).map fun i => match aza l known i with
    | some k => prG l known i k
    | none => default
def aiy (l : Li) (known : List Bool) (i : Nat) : Bool := ahh l known i && (decide (0 <= abg l 0 i known) && decide (0 <= abg l 1 i known))
def sgG (l : Li) (known : List Bool) (i : Nat) : Gr :=
  ⟨if (l.joints.getD (abg l 1 i known).toNat default).a = i then 2 else 3,[i],[abg l 0 i known,abg l 1 i known],0⟩
def acq (l : Li) (known : List Bool) : Option Gr := (acw l.bodies.length (fun i => !aiy l known i)).map (sgG l known)
def adm (l : Li) (known : List Bool) : Option Gr := (ab2 l known).or ((aev l known).or (acq l known))
def aas (known : List Bool) (bs : List Int) : List Bool := bs.foldl (fun k b => k.set b.toNat true) known
def aa0 (l : Li) : Nat -> List Bool -> List Gr -> List Bool × List Gr
  | 0,known,out => (known,out)
  | n + 1, known, out => match adm l known with
    | none => (known,out)
    | some g => aa0 l n (aas known g.bodies) (out ++ [g])
def adl (l : Li) : List Gr := (aa0 l l.bodies.length (aeg l.bodies.length 0) []).2
def adz (l : Li) : List Bool := (adl l).foldl (fun k g => aas k g.bodies) (aeg l.bodies.length 0)
def ag9 (l : Li) : List Bool := (adl l).foldl (fun k g => aas k g.joints) (List.replicate l.joints.length false)
def acf (k : List Bool) : List Int := ((List.range k.length).filter (fun i => !k.getD i false)).map (fun i : Nat => ((i : Nat) : Int))
def ac8 (l : Li) : Nat := if (acf (adz l)).length + (acf (ag9 l)).length = 0 then 0 else 7
def ab7 (l : Li) : List Gr := if ac8 l = 0 then adl l else []
theorem awh {kind body : Int} {oth : List Bool} {j : Jt} {va vb : Bool} (ea : kn oth j.a = va) (eb : kn oth j.b = vb) :
  cond (aaa .eql j.kind kind) (cond (cond (aaa .eql j.a body) vb false) true (cond (aaa .eql j.b body) va false)) false = a9o kind body oth j := by
 unfold a9o
 rw [am7,am7,am7,ea,eb,aed,aed,aed,am5]
theorem ad5 (n : Nat) (b : Int) : (aeg n b).length = n:=by unfold aeg; simp
theorem afk : ∀ (bs : List Int) (k : List Bool), (aas k bs).length = k.length
 | [],k => rfl
 | b :: bs, k => by
  show (aas (k.set b.toNat true) bs).length = _
  rw [afk bs]; simp
theorem abn {n i : Nat} {ok : Nat -> Bool} (h : acw n ok = some i) : i < n /\ ok i = false := by
 unfold acw at h
 rw [List.find?_range_eq_some] at h
 exact ⟨by simpa using h.2.1,by simpa using h.1⟩
theorem afv {l : Li} {kind body : Int} {oth : List Bool} : -1 <= abg l kind body oth /\ abg l kind body oth < l.joints.length := by
 unfold abg
 cases h : acw l.joints.length (fun i => !a9o kind body oth (l.joints.getD i default)) with
 | none => exact ⟨by decide,by show (-1 : Int) < _; omega⟩
 | some i => have := (abn h).1; exact ⟨by show (-1 : Int) <= (i : Int); omega,by show (i : Int) < _; omega⟩
structure GrOk (l : Li) (g : Gr) : Prop where
  b : ∀ x ∈ g.bodies,0 <= x /\ x < l.bodies.length
  j : ∀ x ∈ g.joints,0 <= x /\ x < l.joints.length
  lb : g.bodies.length <= 2
  lj : g.joints.length <= 3
theorem a2m {l : Li} (hl : liE l = 0) {known : List Bool} {g : Gr} (h : ab2 l known = some g) : GrOk l g := by
 unfold ab2 at h
 rw [map_eq_some_iff] at h
 obtain ⟨i,hi,rfl⟩ := h
 obtain ⟨h1,h2⟩ := abn hi
 obtain ⟨d,hd⟩ := ab9 h1
 have h3 := ahn (a2o hl hd)
 unfold aix at h2
 simp only [Bool.not_eq_false',and_eq_true,decide_eq_true_eq] at h2
 rw [aag hd] at h2 ⊢
 have h4 := afv (l := l) (kind := 0) (body := d.body) (oth := known)
 refine ⟨fun x hx => ?_,fun x hx => ?_,by simp,by simp⟩
 ·rw [List.mem_singleton.1 hx]; exact h3
 ·rw [List.mem_singleton.1 hx]; exact ⟨h2.2,h4.2⟩
theorem bbz {l : Li} {known : List Bool} {g : Gr} (h : aev l known = some g) : GrOk l g := by
 unfold aev at h
 rw [map_eq_some_iff] at h
 obtain ⟨i,hi,h⟩ := h
 obtain ⟨h1,h2⟩ := abn hi
 split at h
 ·rename_i k hk
  subst h
  unfold aza at hk
  rw [map_eq_some_iff] at hk
  obtain ⟨k',hk',rfl⟩ := hk
  obtain ⟨h3,h4⟩ := abn hk'
  rw [show i + 1 + k' = k' + (i + 1) by omega] at h4
  unfold ae5 at h4
  simp only [Bool.not_eq_false',and_eq_true,decide_eq_true_eq] at h4
  obtain ⟨_,⟨j1,j2⟩,j3⟩ := h4
  refine ⟨fun x hx => ?_,fun x hx => ?_,by simp [prG],by simp [prG]⟩
  ·simp only [prG, mem_cons, not_mem_nil, or_false] at hx
   rcases hx with rfl | rfl <;> constructor <;> omega
  ·simp only [prG, mem_cons, not_mem_nil, or_false] at hx
   rcases hx with rfl | rfl | rfl
   ·exact ⟨j1,afv.2⟩
   ·exact ⟨j2,afv.2⟩
   ·exact ⟨j3,afv.2⟩
 ·rename_i hk; rw [hk] at h2; cases h2
theorem a14 {l : Li} {known : List Bool} {g : Gr} (h : acq l known = some g) : GrOk l g := by
 unfold acq at h
 rw [map_eq_some_iff] at h
 obtain ⟨i,hi,rfl⟩ := h
 obtain ⟨h1,h2⟩ := abn hi
 unfold aiy at h2
 simp only [Bool.not_eq_false',and_eq_true,decide_eq_true_eq] at h2
 obtain ⟨_,j1,j2⟩ := h2
 refine ⟨fun x hx => ?_,fun x hx => ?_,by simp [sgG],by simp [sgG]⟩
 ·simp only [sgG, mem_cons, not_mem_nil, or_false] at hx
  subst hx; constructor <;> omega
 ·simp only [sgG, mem_cons, not_mem_nil, or_false] at hx
  rcases hx with rfl | rfl
  ·exact ⟨j1,afv.2⟩
  ·exact ⟨j2,afv.2⟩
theorem as5 {l : Li} (hl : liE l = 0) {known : List Bool} {g : Gr} (h : adm l known = some g) : GrOk l g := by
 unfold adm at h
 cases h1 : ab2 l known with
 | some g' => rw [h1] at h; cases h; exact a2m hl h1
 | none =>
  rw [h1] at h
  cases h2 : aev l known with
  | some g' => rw [h2] at h; cases h; exact bbz h2
  | none => rw [h2] at h; exact a14 h
theorem aol {l : Li} (hl : liE l = 0) : ∀ (n : Nat) (known : List Bool) (out : List Gr), (∀ g ∈ out, GrOk l g) -> (∀ g ∈ (aa0 l n known out).2, GrOk l g) /\ (aa0 l n known out).2.length <= out.length + n
 | 0,known,out,h => ⟨h,by simp [aa0]⟩
 | n + 1, known, out, h => by
  unfold aa0
  cases hg : adm l known with
  | none => exact ⟨h,by simp⟩
  | some g =>
   have h1 := aol hl n (aas known g.bodies) (out ++ [g]) (fun x hx => by
    rcases List.mem_append.1 hx with hx | hx
    ·exact h x hx
    ·rw [List.mem_singleton.1 hx]; exact as5 hl hg)
   refine ⟨h1.1,?_⟩
   have := h1.2
   rw [length_append] at this
   show (aa0 l n (aas known g.bodies) (out ++ [g])).2.length <= _
   simp only [length_cons,length_nil] at this
   omega
theorem ak3 {l : Li} (hl : liE l = 0) : (∀ g ∈ adl l, GrOk l g) /\ (adl l).length <= 8 := by
 have h := aol hl l.bodies.length (aeg l.bodies.length 0) [] (fun g hg => by cases hg)
 have h8 := (abw hl).2.2.2.1
 exact ⟨h.1,by have := h.2; simp only [length_nil] at this; unfold adl; omega⟩
end Go.Lw
namespace Go.Lw
def aiv (j : Jt) (b : Int) : Int := if b = j.a then j.b else if b = j.b then j.a else -1
def bl5 (kind body : Int) (p : Int -> Bool) (j : Jt) : Bool := decide (j.kind = kind) && (decide (0 <= aiv j body) && p (aiv j body))
def gJ (l : Li) (kind body : Int) (p : Int -> Bool) : Int := ixI (acw l.joints.length (fun i => !bl5 kind body p (l.joints.getD i default)))
theorem bow {b : Bool} {z : Int} (h : cond b (aaa .geq z 0) false = true) : 0 <= z := by
 cases b
 ·cases h
 ·exact of_decide_eq_true h
theorem bik {a k z : Int} {q : Bool} : cond (cond (aaa .eql a k) (aaa .geq z 0) false) q false = (decide (a = k) && (decide (0 <= z) && q)) := by
 rw [am7,show aaa .geq z 0 = decide (0 <= z) from rfl,aed,aed,Bool.and_assoc]
theorem a9z {l : Li} (hli : liE l = 0) {i : Nat} {j : Jt} (hj : l.joints[i]? = some j) (b : Int) : aiv j b < l.bodies.length := by
 obtain ⟨i1,i2,_⟩ := aem hli hj
 have b1 := ahn i1
 have b2 := ahn i2
 unfold aiv
 split
 ·omega
 ·split <;> omega
theorem au3 {n : Nat} {ok ok' : Nat -> Bool} (h : ∀ i, i < n -> ok i = ok' i) : acw n ok = acw n ok' := by
 unfold acw
 have : ∀ l : List Nat, (∀ i ∈ l, i < n) -> l.find? (fun i => !ok i) = l.find? (fun i => !ok' i) := by
  intro l
  induction l with
  | nil => intro _; rfl
  | cons a l ih =>
   intro hl
   simp only [List.find?_cons,h a (hl a (by simp)),ih (fun i hi => hl i (by simp [hi]))]
 exact this _ (fun i hi => List.mem_range.1 hi)
theorem bhb {l : Li} (hli : liE l = 0) {kind body : Int} {p : Int -> Bool} {oth : List Bool} (h : ∀ o : Int, 0 <= o -> o < l.bodies.length -> p o = kn oth o) : gJ l kind body p = abg l kind body oth := by
 unfold gJ abg
 rw [au3]
 intro i hi
 obtain ⟨j,hj⟩ := ab9 hi
 rw [aag hj]
 obtain ⟨i1,i2,_⟩ := aem hli hj
 have b1 := ahn i1
 have b2 := ahn i2
 congr 1
 unfold bl5 a9o
 congr 1
 unfold aiv
 by_cases h1 : body = j.a
 ·subst h1
  rw [if_pos rfl,h _ b2.1 b2.2]
  by_cases h2 : j.b = j.a
  ·simp [h2,b1.1]
  ·simp [h2,b2.1]
 ·rw [if_neg h1]
  by_cases h2 : body = j.b
  ·subst h2
   rw [if_pos rfl,h _ b1.1 b1.2]
   have h3 : ¬ j.a = j.b := fun e => h1 e.symm
   simp [h3,b1.1]
  ·rw [if_neg h2]
   have h3 : ¬ j.a = body := fun e => h1 e.symm
   have h4 : ¬ j.b = body := fun e => h2 e.symm
   simp [h3,h4]
theorem bdt {k : List Bool} {i : Nat} {b : Int} (h0 : 0 <= b) (hi : i < k.length) : kn (k.set i true) b = (decide (b = i) || kn k b) := by
 unfold kn
 rw [getD_eq_getElem?_getD,List.getElem?_set,getD_eq_getElem?_getD]
 by_cases h : b = i
 ·rw [decide_eq_true h, Bool.true_or, if_pos (by omega)]
  rw [if_pos (by omega)]; rfl
 ·rw [decide_eq_false h,Bool.false_or,if_neg (by omega)]
theorem a4s : ∀ {bs : List Int} {k : List Bool} {b : Int}, 0 <= b -> (∀ x ∈ bs, 0 <= x /\ x < k.length) -> kn (aas k bs) b = (bs.any (fun x => decide (x = b)) || kn k b)
 | [],k,b,h0,h => by simp [aas]
 | x :: bs, k, b, h0, h => by
  show kn (aas (k.set x.toNat true) bs) b = _
  obtain ⟨hx0,hx1⟩ := h x (by simp)
  rw [a4s h0 (fun y hy => by rw [length_set]; exact h y (by simp [hy])),bdt h0 (by omega),List.any_cons]
  have e : decide (b = (x.toNat : Int)) = decide (x = b) := decide_eq_decide.2 (by omega)
  rw [e]
  cases decide (x = b) <;> simp
theorem azk (n : Nat) (b : Int) : kn (List.replicate n false) b = false := by
 unfold kn
 rw [getD_eq_getElem?_getD,List.getElem?_replicate]
 split <;> rfl
def aaw (l : Li) : List Bool := aas (List.replicate l.bodies.length false) (l.drivers.map Dr.body)
theorem ahy (l : Li) : (aaw l).length = l.bodies.length:=by unfold aaw; rw [afk,length_replicate]
theorem a33 {l : Li} (hli : liE l = 0) {b : Int} (h0 : 0 <= b) : kn (aaw l) b = amz l b := by
 unfold aaw amz
 rw [a4s h0,azk,Bool.or_false,List.any_map]
 ·rfl
 ·intro x hx
  obtain ⟨d,hd,rfl⟩ := List.mem_map.1 hx
  obtain ⟨i,hi⟩ := List.mem_iff_getElem?.1 hd
  have := ahn (a2o hli hi)
  rw [length_replicate]; omega
theorem axk {n : Nat} {b o : Int} (h0 : 0 <= o) (hb0 : 0 <= b) (hb : b < n) : kn (aeg n b) o = decide (o = b) := by
 unfold aeg
 rw [bdt h0 (by rw [length_replicate]; omega),azk,Bool.or_false]
 exact decide_eq_decide.2 (by omega)
def unk (k : List Bool) : Nat := k.countP (fun x => !x)
theorem bg6 {k : List Bool} {i : Nat} (h : k[i]? = some false) : unk (k.set i true) + 1 = unk k := by
 unfold unk
 have hi := (List.getElem?_eq_some_iff.1 h).1
 have he := (List.getElem?_eq_some_iff.1 h).2
 rw [List.countP_set hi,he]
 have : 0 < k.countP (fun x => !x) := List.countP_pos_iff.2 ⟨false,mem_of_getElem? h,rfl⟩
 simp; omega
theorem a3b (k : List Bool) (i : Nat) : unk (k.set i true) <= unk k := by
 by_cases hi : i < k.length
 ·unfold unk; rw [List.countP_set hi]; simp
 ·rw [List.set_eq_of_length_le (by omega)]; exact le_refl _
theorem aor : ∀ (bs : List Int) (k : List Bool), unk (aas k bs) <= unk k
 | [],k => le_refl _
 | x :: bs,k => le_trans (aor bs (k.set x.toNat true)) (a3b k _)
theorem bbq {x : Int} {bs : List Int} {k : List Bool} (h : k[x.toNat]? = some false) : unk (aas k (x :: bs)) < unk k := by
 have h1 := aor bs (k.set x.toNat true)
 have h2 := bg6 h
 show unk (aas (k.set x.toNat true) bs) < _
 omega
theorem a7w {k : List Bool} {b : Int} (h : kn k b = false) (h1 : b.toNat < k.length) : k[b.toNat]? = some false := by
 unfold kn at h
 rw [getD_eq_getElem?_getD,getElem?_eq_getElem h1] at h
 rw [getElem?_eq_getElem h1]
 simpa using h
theorem a77 {l : Li} (hl : liE l = 0) {known : List Bool} (hk : known.length = l.bodies.length) {g : Gr} (h : adm l known = some g) : ∃ x bs, g.bodies = x :: bs /\ known[x.toNat]? = some false := by
 unfold adm at h
 cases h1 : ab2 l known with
 | some g' =>
  rw [h1] at h; cases h
  unfold ab2 at h1
  rw [map_eq_some_iff] at h1
  obtain ⟨i,hi,rfl⟩ := h1
  obtain ⟨h2,h3⟩ := abn hi
  obtain ⟨d,hd⟩ := ab9 h2
  have h4 := ahn (a2o hl hd)
  rw [aag hd] at *
  unfold aix at h3
  rw [aag hd] at h3
  simp only [Bool.not_eq_false',and_eq_true,Bool.not_eq_true',decide_eq_true_eq] at h3
  exact ⟨_,_,rfl,a7w h3.1 (by omega)⟩
 | none =>
  rw [h1] at h
  cases h2 : aev l known with
  | some g' =>
   rw [h2] at h; cases h
   unfold aev at h2
   rw [map_eq_some_iff] at h2
   obtain ⟨i,hi,h2⟩ := h2
   obtain ⟨h3,h4⟩ := abn hi
   split at h2
   ·rename_i k hk'
    subst h2
    unfold aza at hk'
    rw [map_eq_some_iff] at hk'
    obtain ⟨k',hk',rfl⟩ := hk'
    obtain ⟨h5,h6⟩ := abn hk'
    unfold ae5 ahh at h6
    simp only [Bool.not_eq_false',and_eq_true,Bool.not_eq_true',decide_eq_true_eq] at h6
    exact ⟨_,_,rfl,a7w h6.1.1.1 (by omega)⟩
   ·rename_i hk'; rw [hk'] at h4; cases h4
  | none =>
   rw [h2] at h
   have h : acq l known = some g := h
   unfold acq at h
   rw [map_eq_some_iff] at h
   obtain ⟨i,hi,rfl⟩ := h
   obtain ⟨h3,h4⟩ := abn hi
   unfold aiy ahh at h4
   simp only [Bool.not_eq_false',and_eq_true,Bool.not_eq_true',decide_eq_true_eq] at h4
   exact ⟨_,_,rfl,a7w h4.1.1 (by omega)⟩
theorem aho {l : Li} (hl : liE l = 0) {known : List Bool} (hk : known.length = l.bodies.length) {g : Gr} (h : adm l known = some g) : unk (aas known g.bodies) < unk known := by
 obtain ⟨x,bs,e,h1⟩ := a77 hl hk h
 rw [e]; exact bbq h1
theorem ain {l : Li} (hl : liE l = 0) : ∀ (n m : Nat) (known : List Bool) (out : List Gr), known.length = l.bodies.length -> unk known <= n -> unk known <= m -> aa0 l n known out = aa0 l m known out
 | 0,0,known,out,hk,h1,h2 => rfl
 | 0, m + 1, known, out, hk, h1, h2 => by
  unfold aa0
  cases hg : adm l known with
  | none => rfl
  | some g => have := aho hl hk hg; omega
 | n + 1, 0, known, out, hk, h1, h2 => by
  unfold aa0
  cases hg : adm l known with
  | none => rfl
  | some g => have := aho hl hk hg; omega
 | n + 1, m + 1, known, out, hk, h1, h2 => by
  unfold aa0
  cases hg : adm l known with
  | none => rfl
  | some g =>
   have := aho hl hk hg
   exact ain hl n m _ _ (by rw [afk]; exact hk) (by omega) (by omega)
theorem ag5 {l : Li} : ∀ (n : Nat) (known : List Bool) (out : List Gr), ∃ gs, aa0 l n known out = (gs.foldl (fun k g => aas k g.bodies) known, out ++ gs)
 | 0,known,out => ⟨[],by simp [aa0]⟩
 | n + 1, known, out => by
  unfold aa0
  cases hg : adm l known with
  | none => exact ⟨[],by simp⟩
  | some g =>
   obtain ⟨gs,e⟩ := ag5 n (aas known g.bodies) (out ++ [g])
   exact ⟨g :: gs,by show aa0 l n _ _ = _; rw [e]; simp⟩
theorem a2x (l : Li) : aa0 l l.bodies.length (aeg l.bodies.length 0) [] = (adz l, adl l) := by
 obtain ⟨gs,e⟩ := ag5 (l := l) l.bodies.length (aeg l.bodies.length 0) []
 unfold adz adl
 rw [e]; simp
theorem a1i {k : List Bool} : (acf k).length = 0 ↔ k.contains false = false := by
 unfold acf
 rw [length_map,List.length_eq_zero_iff,List.filter_eq_nil_iff]
 constructor
 ·intro h
  rw [<- Bool.not_eq_true,List.contains_iff_mem]
  intro hm
  obtain ⟨i,hi⟩ := List.mem_iff_getElem?.1 hm
  have hlt := (List.getElem?_eq_some_iff.1 hi).1
  have := h i (List.mem_range.2 hlt)
  rw [getD_eq_getElem?_getD,hi] at this
  simp at this
 ·intro h i hi
  rw [<- Bool.not_eq_true,List.contains_iff_mem] at h
  intro hc
  have hlt := List.mem_range.1 hi
  rw [getD_eq_getElem?_getD,getElem?_eq_getElem hlt] at hc
  simp at hc
  exact h (hc ▸ List.getElem_mem hlt)
theorem amt : Sub (.agg [.v (.int .i64 0),.v (.slice none 0 0),.v (.slice none 0 0),.v (.int .i64 0)]) (Gr.av default) := .agg (.cons (.refl _) (.cons (.nil _ _ _) (.cons (.nil _ _ _) (.cons (.refl _) .nil)))) rfl
theorem blj {z : Int} (h : aaa .geq z 0 = true) : 0 <= z := of_decide_eq_true h
theorem bk3 {z : Int} (h : aaa .geq z 0 = false) : ¬ 0 <= z := of_decide_eq_false h
theorem at8 {a b c : Int} : cond (cond (aaa .geq a 0) (aaa .geq b 0) false) (aaa .geq c 0) false = (decide (0 <= a) && decide (0 <= b) && decide (0 <= c)) := by
 have e : ∀ z : Int,aaa .geq z 0 = decide (0 <= z) := fun z => rfl
 rw [e,e,e,aed,aed]
theorem bjh {a b : Int} : cond (aaa .lss a 0) true (aaa .lss b 0) = !(decide (0 <= a) && decide (0 <= b)) := by
 have e : ∀ z : Int,aaa .lss z 0 = !decide (0 <= z) := fun z => by rw [<- decide_not]; exact decide_eq_decide.2 (by omega)
 rw [e,e,am5,Bool.not_and]
theorem bhw {a b : Int} (h : cond (aaa .lss a 0) true (aaa .lss b 0) = true) : (decide (0 <= a) && decide (0 <= b)) = false:=by rw [bjh] at h; exact af0 h
theorem blb {a b : Int} (h : cond (aaa .lss a 0) true (aaa .lss b 0) = false) : 0 <= a /\ 0 <= b := by
 rw [bjh] at h
 have := afu h
 simpa using this
end Go.Lw
namespace Go.Lw
structure TieO (l : Li) (kind : Int) (bs : List Int) (z b : Int) (j : Jt) : Prop where
  hz : 0 <= z
  hj : l.joints[z.toNat]? = some j
  kd : j.kind = kind
  tie : (j.a = b /\ j.b ∉ bs) \/ (j.b = b /\ j.a ∉ bs)
inductive DyK (l : Li) : Gr -> Prop where
  | drv {b z d : Int} {j : Jt} {x : Dr} (t : TieO l 0 [b] z b j) (d0 : 0 <= d) (hd : l.drivers[d.toNat]? = some x) (hb : x.body = b) : DyK l ⟨0,[b],[z],d⟩
  | rrr {i k z0 z1 z2 : Int} {j0 j1 j2 : Jt} (ne : i ≠ k) (t0 : TieO l 0 [i, k] z0 i j0) (t1 : TieO l 0 [i, k] z1 k j1) (h0 : 0 <= z2) (h2 : l.joints[z2.toNat]? = some j2) (kd : j2.kind = 0)
      (tie : (j2.a = i /\ j2.b = k) \/ (j2.b = i /\ j2.a = k)) : DyK l ⟨1,[i,k],[z0,z1,z2],0⟩
  | pr {i z0 z1 : Int} {j0 j1 : Jt} (t0 : TieO l 0 [i] z0 i j0) (t1 : TieO l 1 [i] z1 i j1) (ha : j1.a = i) : DyK l ⟨2,[i],[z0,z1],0⟩
  | rp {i z0 z1 : Int} {j0 j1 : Jt} (t0 : TieO l 0 [i] z0 i j0) (t1 : TieO l 1 [i] z1 i j1) (ha : j1.a ≠ i) : DyK l ⟨3,[i],[z0,z1],0⟩
theorem avl {l : Li} {kind b : Int} {oth : List Bool} (h : 0 <= abg l kind b oth) :
  ∃ (i : Nat) (j : Jt),abg l kind b oth = (i : Int) /\ l.joints[i]? = some j /\ j.kind = kind /\ ((j.a = b /\ kn oth j.b = true) \/ (j.b = b /\ kn oth j.a = true)) := by
 unfold abg at h ⊢
 cases hf : acw l.joints.length (fun i => !a9o kind b oth (l.joints.getD i default)) with
 | none => rw [hf] at h; exact absurd h (by decide)
 | some i =>
  obtain ⟨h1,h2⟩ := abn hf
  obtain ⟨j,hj⟩ := ab9 h1
  rw [aag hj] at h2
  unfold a9o at h2
  simp only [Bool.not_eq_false',and_eq_true,or_eq_true,decide_eq_true_eq] at h2
  exact ⟨i,j,rfl,hj,h2.1,h2.2⟩
theorem auq {l : Li} {kind b : Int} {known : List Bool} {bs : List Int} (hb : ∀ x ∈ bs, kn known x = false) (h : 0 <= abg l kind b known) : ∃ j, TieO l kind bs (abg l kind b known) b j := by
 obtain ⟨i,j,e,hj,hk,ht⟩ := avl h
 have hn : ∀ x,kn known x = true -> x ∉ bs := fun x hx hm => by rw [hb x hm] at hx; cases hx
 refine ⟨j,h,by rw [e,toNat_natCast]; exact hj,hk,?_⟩
 rcases ht with ⟨h1,h2⟩ | ⟨h1,h2⟩
 ·exact .inl ⟨h1,hn _ h2⟩
 ·exact .inr ⟨h1,hn _ h2⟩
theorem asp {l : Li} {known : List Bool} {b : Int} (h : ahh l known b = true) : kn known b = false := by
 unfold ahh at h
 simp only [and_eq_true,Bool.not_eq_true'] at h
 exact h.1
theorem a7f {known : List Bool} {b : Int} (h : kn known b = false) : ∀ x ∈ [b],kn known x = false := fun x hx => by rw [List.mem_singleton.1 hx]; exact h
theorem a2j {l : Li} (hl : liE l = 0) {known : List Bool} {g : Gr} (h : ab2 l known = some g) : DyK l g := by
 unfold ab2 at h
 rw [map_eq_some_iff] at h
 obtain ⟨i,hi,rfl⟩ := h
 obtain ⟨h1,h2⟩ := abn hi
 obtain ⟨d,hd⟩ := ab9 h1
 unfold aix at h2
 simp only [Bool.not_eq_false',and_eq_true,decide_eq_true_eq,Bool.not_eq_true'] at h2
 rw [aag hd] at h2 ⊢
 obtain ⟨j,hj⟩ := auq (a7f h2.1) h2.2
 exact .drv hj (by omega) (by rw [toNat_natCast]; exact hd) rfl
theorem bb8 {l : Li} (hl : liE l = 0) {known : List Bool} {g : Gr} (h : aev l known = some g) : DyK l g := by
 unfold aev at h
 rw [map_eq_some_iff] at h
 obtain ⟨i,hi,h⟩ := h
 obtain ⟨h1,h2⟩ := abn hi
 split at h
 ·rename_i k hk
  subst h
  unfold aza at hk
  rw [map_eq_some_iff] at hk
  obtain ⟨k',hk',rfl⟩ := hk
  obtain ⟨h3,h4⟩ := abn hk'
  rw [show i + 1 + k' = k' + (i + 1) by omega] at h4
  unfold ae5 at h4
  simp only [Bool.not_eq_false',and_eq_true,decide_eq_true_eq] at h4
  obtain ⟨⟨f1,f2⟩,⟨j1,j2⟩,j3⟩ := h4
  have hb : ∀ x ∈ [(i : Int), ((k' + (i + 1) : Nat) : Int)], kn known x = false := fun x hx => by
   simp only [mem_cons,not_mem_nil,or_false] at hx
   rcases hx with rfl | rfl
   ·exact asp f1
   ·exact asp f2
  obtain ⟨a0,t0⟩ := auq hb j1
  obtain ⟨a1,t1⟩ := auq hb j2
  obtain ⟨n,a2,e,hj,hkd,ht⟩ := avl j3
  obtain ⟨i1,i2,_⟩ := aem hl hj
  have i1 := (ahn i1).1
  have i2 := (ahn i2).1
  refine .rrr (by omega) t0 t1 j3 (by rw [e,toNat_natCast]; exact hj) hkd ?_
  rcases ht with ⟨e1,e2⟩ | ⟨e1,e2⟩
  ·rw [axk i2 (by omega) (by omega)] at e2
   exact .inl ⟨e1,of_decide_eq_true e2⟩
  ·rw [axk i1 (by omega) (by omega)] at e2
   exact .inr ⟨e1,of_decide_eq_true e2⟩
 ·rename_i hk; rw [hk] at h2; cases h2
theorem a26 {l : Li} {known : List Bool} {g : Gr} (h : acq l known = some g) : DyK l g := by
 unfold acq at h
 rw [map_eq_some_iff] at h
 obtain ⟨i,hi,rfl⟩ := h
 obtain ⟨h1,h2⟩ := abn hi
 unfold aiy at h2
 simp only [Bool.not_eq_false',and_eq_true,decide_eq_true_eq] at h2
 obtain ⟨f1,j1,j2⟩ := h2
 obtain ⟨a0,t0⟩ := auq (a7f (asp f1)) j1
 obtain ⟨a1,t1⟩ := auq (a7f (asp f1)) j2
 unfold sgG
 rw [aag t1.hj]
 by_cases e : a1.a = i
 ·rw [if_pos e]; exact .pr t0 t1 e
 ·rw [if_neg e]; exact .rp t0 t1 e
theorem a97 {l : Li} (hl : liE l = 0) {known : List Bool} {g : Gr} (h : adm l known = some g) : DyK l g := by
 unfold adm at h
 cases h1 : ab2 l known with
 | some g' => rw [h1] at h; cases h; exact a2j hl h1
 | none =>
  rw [h1] at h
  cases h2 : aev l known with
  | some g' => rw [h2] at h; cases h; exact bb8 hl h2
  | none => rw [h2] at h; exact a26 h
theorem ao0 {l : Li} (hl : liE l = 0) : ∀ (n : Nat) (known : List Bool) (out : List Gr), (∀ g ∈ out, DyK l g) -> ∀ g ∈ (aa0 l n known out).2, DyK l g
 | 0,known,out,h => h
 | n + 1, known, out, h => by
  unfold aa0
  cases hg : adm l known with
  | none => exact h
  | some g => exact ao0 hl n (aas known g.bodies) (out ++ [g]) (fun x hx => by
    rcases List.mem_append.1 hx with hx | hx
    ·exact h x hx
    ·rw [List.mem_singleton.1 hx]; exact a97 hl hg)
theorem apb {l : Li} (hl : liE l = 0) {g : Gr} (h : g ∈ ab7 l) : DyK l g /\ GrOk l g := by
 unfold ab7 at h
 split at h
 ·exact ⟨ao0 hl _ _ _ (fun g hg => by cases hg) g h,(ak3 hl).1 g h⟩
 ·cases h
end Go.Lw
namespace Go.Lw
def anp (xs : List Int) : List Int := xs.mergeSort (fun a b => decide (a <= b))
theorem atr (xs : List Int) : (anp xs).Perm xs := List.mergeSort_perm _ _
theorem arn (xs : List Int) : (anp xs).Pairwise (· <= ·) := by
 have h := List.pairwise_mergeSort (le := fun a b : Int => decide (a <= b)) (fun a b c h1 h2 => by simp only [decide_eq_true_eq] at *; omega) (fun a b => by simp only [or_eq_true,decide_eq_true_eq]; omega) xs
 exact h.imp (fun h => of_decide_eq_true h)
theorem bcj {xs ys : List Int} (hp : ys.Perm xs) (hs : ys.Pairwise (· <= ·)) : ys = anp xs :=
 List.Perm.eq_of_pairwise (le := fun a b : Int => a <= b) (fun a b _ _ h1 h2 => by omega) hs (arn xs) (hp.trans (atr xs).symm)
theorem a4r (xs : List Int) : (anp xs).length = xs.length := (atr xs).length_eq
theorem ao7 {xs : List Int} {b : Int} : b ∈ anp xs ↔ b ∈ xs := (atr xs).mem_iff
theorem aky (e : Nat) (l : List Nat) : ac2 (e :: l) = if e ≠ 0 then e else ac2 l := rfl
theorem ana {α : Type} {R : α -> α -> Prop} {f : α -> Nat} {b : α} (hf : f b ≠ 0) : ∀ {L : List α}, L.Pairwise R -> b ∈ L -> (∀ x ∈ L, R x b -> x ≠ b -> f x = 0) -> ac2 (L.map f) = f b
 | [],_,hm,_ => by cases hm
 | x :: L, hp, hm, h => by
  rw [map_cons,aky]
  rw [List.pairwise_cons] at hp
  by_cases hx : f x ≠ 0
  ·rw [if_pos hx]
   rcases List.mem_cons.1 hm with rfl | hm
   ·rfl
   ·by_cases e : x = b
    ·rw [e]
    ·exact absurd (h x (mem_cons_self ..) (hp.1 b hm) e) hx
  ·rw [if_neg hx]
   have hb : b ∈ L := by
    rcases List.mem_cons.1 hm with e | hm
    ·rw [<- e] at hx; exact absurd hf hx
    ·exact hm
   exact ana hf hp.2 hb (fun y hy => h y (mem_cons_of_mem _ hy))
theorem agm {α : Type} {f : α -> Nat} {L : List α} (h : ∀ x ∈ L, f x = 0) : ac2 (L.map f) = 0 := by
 induction L with
 | nil => rfl
 | cons x L ih =>
  rw [map_cons,aky,if_neg (by rw [h x (mem_cons_self ..)]; simp)]
  exact ih (fun y hy => h y (mem_cons_of_mem _ hy))
theorem avg {n : Nat} {xs : List Int} (hx : ∀ b ∈ xs, b < n) {f : Int -> Nat} (hf : ∀ b, b < 0 -> f b = 0) :
  ac2 ((anp xs).map f) = ac2 ((List.range n).map (fun i : Nat => if (i : Int) ∈ xs then f i else 0)) := by
 cases hq : acw n (fun i => !(decide ((i : Int) ∈ xs) && decide (f i ≠ 0))) with
 | none =>
  have h1 := ax1 hq
  have h2 : ∀ i, i < n -> (i : Int) ∈ xs -> f i = 0 := by
   intro i hi hm
   have := h1 i hi
   simp only [Bool.not_eq_true',Bool.and_eq_false_iff,decide_eq_false_iff_not,Decidable.not_not] at this
   rcases this with h | h
   ·exact absurd hm h
   ·exact h
  rw [agm,agm]
  ·intro i hi
   have hi := List.mem_range.1 hi
   show (if (i : Int) ∈ xs then f i else 0) = 0
   split
   ·rename_i hm; exact h2 i hi hm
   ·rfl
  ·intro b hb
   have hb := ao7.1 hb
   by_cases h0 : b < 0
   ·exact hf b h0
   ·have e : b = ((b.toNat : Nat) : Int) := by omega
    rw [e]
    exact h2 b.toNat (by have := hx b hb; omega) (by rw [<- e]; exact hb)
 | some i =>
  unfold acw at hq
  rw [List.find?_range_eq_some] at hq
  obtain ⟨h1,h2,h3⟩ := hq
  simp only [Bool.not_not,and_eq_true,decide_eq_true_eq] at h1
  have hmin : ∀ j, j < i -> (j : Int) ∈ xs -> f j = 0 := by
   intro j hj hm
   have := h3 j hj
   simp only [Bool.not_not,Bool.not_eq_true',Bool.and_eq_false_iff,decide_eq_false_iff_not,Decidable.not_not] at this
   rcases this with h | h
   ·exact absurd hm h
   ·exact h
  have hin := List.mem_range.1 h2
  rw [ana (R := (· <= ·)) (f := f) (b := (i : Int)) h1.2 (arn xs) (ao7.2 h1.1)]
  ·rw [ana (R := (· <= ·)) (f := fun i : Nat => if (i : Int) ∈ xs then f i else 0) (b := i) (by show (if (i : Int) ∈ xs then f i else 0) ≠ 0; rw [if_pos h1.1]; exact h1.2) (List.pairwise_le_range) h2]
   ·show _ = (if (i : Int) ∈ xs then f i else 0)
    rw [if_pos h1.1]
   ·intro j hj hle hne
    show (if (j : Int) ∈ xs then f j else 0) = 0
    split
    ·rename_i hm; exact hmin j (by omega) hm
    ·rfl
  ·intro b hb hle hne
   have hb := ao7.1 hb
   by_cases h0 : b < 0
   ·exact hf b h0
   ·have e : b = ((b.toNat : Nat) : Int) := by omega
    rw [e]
    exact hmin b.toNat (by omega) (by rw [<- e]; exact hb)
def anc (g : Gr) (j : Jt) : Int := if g.bodies.contains j.a = true then (if g.bodies.contains j.b = true then -1 else j.b) else j.a
def aiu (l : Li) (g : Gr) : List Int := g.joints.map (fun j => anc g (l.joints.getD j.toNat default))
theorem ahc (l : Li) (g : Gr) : (aiu l g).length = g.joints.length:=by unfold aiu; rw [length_map]
theorem a5z {l : Li} (hl : liE l = 0) {g : Gr} (hg : GrOk l g) : ∀ b ∈ aiu l g, b < l.bodies.length := by
 intro b hb
 unfold aiu at hb
 obtain ⟨z,hz,rfl⟩ := List.mem_map.1 hb
 obtain ⟨z0,z1⟩ := hg.j z hz
 obtain ⟨j,hj⟩ := ab9 (l := l.joints) (i := z.toNat) (by omega)
 rw [aag hj]
 obtain ⟨i1,i2,_⟩ := aem hl hj
 have i1 := ahn i1
 have i2 := ahn i2
 unfold anc
 split
 ·split
  ·omega
  ·omega
 ·omega
def ndL (l : Li) (g : Gr) (own : Bool) : List Int := aiu l g ++ (if own = true then g.bodies else [])
theorem a42 {l : Li} (hl : liE l = 0) {g : Gr} (hg : GrOk l g) {own : Bool} : ∀ b ∈ ndL l g own, b < l.bodies.length := by
 intro b hb
 rcases List.mem_append.1 hb with hb | hb
 ·exact a5z hl hg b hb
 ·split at hb
  ·exact (hg.b b hb).2
  ·cases hb
theorem bh6 {l : Li} {g : Gr} (hg : GrOk l g) {own : Bool} : (ndL l g own).length <= 5 := by
 unfold ndL
 have h1 := hg.lb
 have h2 := hg.lj
 rw [length_append,ahc]
 split
 ·omega
 ·simp only [length_nil]; omega
def ndE (a : As) (b : Int) : Nat := if b < 0 then 0 else abf a.rs (a.bs.getD b.toNat default).l
def gAt (l : Li) (k : Int) : Gr := (ab7 l).getD k.toNat default
def aub (l : Li) (k : Int) (a : As) (own : Bool) : Nat :=
  if ac8 l ≠ 0 then ac8 l else if k < 0 \/ ((ab7 l).length : Int) <= k then 9 else if a.bs.length ≠ l.bodies.length then 10 else if aey a.rs ≠ 0 then aey a.rs
  else ac2 ((anp (ndL l (gAt l k) own)).map (ndE a))
def dyE (l : Li) (k : Int) (a : As) (own : Bool) : Nat := if liE l ≠ 0 then liE l else aub l k a own
section
variable {l : Li} {k : Int} {a : As} {own : Bool}
theorem bgk (h : liE l = 0) : dyE l k a own = aub l k a own:=by unfold dyE; rw [if_neg (by omega)]
theorem bo5 {e : Nat} (he : (if liE l = 0 then ac8 l else liE l) = e) (h : e ≠ 0) : dyE l k a own = e := by
 by_cases h1 : liE l = 0
 ·rw [if_pos h1] at he
  rw [bgk h1]; unfold aub; rw [if_pos (by omega)]; exact he
 ·rw [if_neg h1] at he
  unfold dyE; rw [if_pos h1]; exact he
theorem bmv (h : (if liE l = 0 then ac8 l else liE l) = 0) : liE l = 0 /\ ac8 l = 0 := by
 by_cases h1 : liE l = 0
 ·rw [if_pos h1] at h; exact ⟨h1,h⟩
 ·rw [if_neg h1] at h; exact absurd h h1
theorem bol (hs : ac8 l ≠ 0) : aub l k a own = ac8 l:=by unfold aub; rw [if_pos hs]
theorem boe (hs : ac8 l = 0) (hk : k < 0 \/ ((ab7 l).length : Int) <= k) : aub l k a own = 9:=by unfold aub; rw [if_neg (by omega),if_pos hk]
theorem boa (hs : ac8 l = 0) (hk : ¬ (k < 0 \/ ((ab7 l).length : Int) <= k)) (hb : a.bs.length ≠ l.bodies.length) : aub l k a own = 10 := by
 unfold aub; rw [if_neg (by omega),if_neg hk,if_pos hb]
theorem boi (hs : ac8 l = 0) (hk : ¬ (k < 0 \/ ((ab7 l).length : Int) <= k)) (hb : a.bs.length = l.bodies.length) (hc : aey a.rs ≠ 0) : aub l k a own = aey a.rs := by
 unfold aub; rw [if_neg (by omega),if_neg hk,if_neg (by omega),if_pos hc]
theorem boc (hs : ac8 l = 0) (hk : ¬ (k < 0 \/ ((ab7 l).length : Int) <= k)) (hb : a.bs.length = l.bodies.length) (hc : aey a.rs = 0) : aub l k a own = ac2 ((anp (ndL l (gAt l k) own)).map (ndE a)) := by
 unfold aub; rw [if_neg (by omega),if_neg hk,if_neg (by omega),if_neg (by omega)]
end
structure DyOk (l : Li) (k : Int) (a : As) (own : Bool) (i : Nat) (g : Gr) : Prop where
  li : liE l = 0
  sp : ac8 l = 0
  hk : k = (i : Int)
  hg : (ab7 l)[i]? = some g
  ok : GrOk l g
  dy : DyK l g
  ln : a.bs.length = l.bodies.length
  chk : aey a.rs = 0
  nd : ∀ b ∈ ndL l g own,ndE a b = 0
theorem bax {l : Li} {k : Int} {a : As} {own : Bool} (h : dyE l k a own = 0) : ∃ i g, DyOk l k a own i g := by
 unfold dyE at h
 split at h
 ·rename_i h1; exact absurd h h1
 ·rename_i h1
  have h1 := Decidable.not_not.1 h1
  unfold aub at h
  split at h
  ·rename_i h2; exact absurd h h2
  ·rename_i h2
   split at h
   ·cases h
   ·rename_i h3
    split at h
    ·cases h
    ·rename_i h4
     split at h
     ·rename_i h5; exact absurd h h5
     ·rename_i h5
      obtain ⟨g,hg⟩ := ab9 (l := ab7 l) (i := k.toNat) (by omega)
      have e : gAt l k = g := aag hg
      rw [e] at h
      obtain ⟨d1,d2⟩ := apb h1 (mem_of_getElem? hg)
      refine ⟨k.toNat,g,h1,by omega,by omega,hg,d2,d1,by omega,by omega,fun b hb => ?_⟩
      exact ae3 h _ (List.mem_map.2 ⟨b,ao7.2 hb,rfl⟩)
theorem DyOk.body {l : Li} {k : Int} {a : As} {own : Bool} {i : Nat} {g : Gr} (h : DyOk l k a own i g) {b : Int} (hb : b ∈ ndL l g own) (h0 : 0 <= b) : ∃ p, a.bs[b.toNat]? = some p /\ abf a.rs p.l = 0 := by
 have h1 := a42 h.li h.ok b hb
 obtain ⟨p,hp⟩ := ab9 (l := a.bs) (i := b.toNat) (by have := h.ln; omega)
 have h2 := h.nd b hb
 unfold ndE at h2
 rw [if_neg (by omega),aag hp] at h2
 exact ⟨p,hp,h2⟩
theorem bky (n : Nat) : 4000 <= lm n:=by have := an3 n; omega
theorem bim {k : Int} {n : Nat} (h : cond (aaa .lss k 0) true (aaa .geq k (n : Int)) = true) : k < 0 \/ (n : Int) <= k := by
 by_cases h1 : k < 0
 ·exact .inl h1
 ·refine .inr ?_
  have h2 : aaa .lss k 0 = false := decide_eq_false h1
  rw [h2] at h
  exact of_decide_eq_true (p := k >= n) h
theorem bjg {k : Int} {n : Nat} (h : cond (aaa .lss k 0) true (aaa .geq k (n : Int)) = false) : ¬ (k < 0 \/ (n : Int) <= k) := by
 intro h1
 by_cases h2 : k < 0
 ·rw [show aaa .lss k 0 = true from decide_eq_true h2] at h; cases h
 ·rw [show aaa .lss k 0 = false from decide_eq_false h2] at h
  have h3 : ¬ (k >= n) := of_decide_eq_false h
  omega
theorem bde {k : Int} {n : Nat} (h : ¬ (k < 0 \/ (n : Int) <= k)) : ∃ i : Nat,k = i /\ i < n := ⟨k.toNat,by omega,by omega⟩
theorem bd4 {a b : Nat} (h : aaa .neq (a : Int) (b : Int) = true) : a ≠ b := by
 have h1 : ((a : Int) != (b : Int)) = true := h
 have h2 := bne_iff_ne.1 h1
 omega
theorem bdm {a b : Nat} (h : aaa .neq (a : Int) (b : Int) = false) : a = b := by
 have h1 : ((a : Int) != (b : Int)) = false := h
 have h2 : (a : Int) = b:=by simpa only [bne_eq_false_iff_eq] using h1
 omega
end Go.Lw
namespace Go.Lw
open Go.Proofs
theorem bf8 (rs : List (List Rt)) : abf rs [] = aey rs := by
 unfold abf
 by_cases h : aey rs = 0
 ·rw [if_neg (by omega),h]; rfl
 ·rw [if_pos h]
end Go.Lw
namespace Go.Lw
open Go.Proofs
end Go.Lw
namespace Go.Lw
theorem bd7 {r : (k : Nat) -> T k} {n : Nat} (p q : Rat) : (qE (p + q) : E r n) = qE p + qE q := T.ofQ_add n p q
theorem biq {r : (k : Nat) -> T k} {n : Nat} (p : Rat) : (qE (-p) : E r n) = -qE p := T.ofQ_neg n p
theorem a9b {r : (k : Nat) -> T k} {n : Nat} (p q : Rat) : (qE (p - q) : E r n) = qE p - qE q := by
 rw [Rat.sub_eq_add_neg,bd7,biq]; grind
theorem azj {r : (k : Nat) -> T k} {n : Nat} (p q : Rat) : (qE (p * q) : E r n) = qE p * qE q := (T.mul_ofQ r n p q).symm
def mkQ (l : Li) (body pt : Int) : Rat × Rat := (((aez l body).getD pt.toNat default).x.q,((aez l body).getD pt.toNat default).y.q)
abbrev qC (p : Rat × Rat) : List AV := [bl (rt p.1).neg,ws (rt p.1).num,ws (rt p.1).den,bl (rt p.2).neg,ws (rt p.2).num,ws (rt p.2).den]
abbrev qP (p : Rat × Rat) : AV := .agg (qC p)
structure Sm (e : Nat) (p : Rat × Rat) : Prop where
  x : Qb e p.1
  y : Qb e p.2
structure MkP (l : Li) (body pt : Int) (n k : Nat) (bd : Bd) (m : Mk) : Prop where
  hn : body = n
  hk : pt = k
  gbd : l.bodies[n]? = some bd
  gm : bd.pts[k]? = some m
  ex : m.x = rt (mkQ l body pt).1
  ey : m.y = rt (mkQ l body pt).2
  sm : Sm 1000 (mkQ l body pt)
theorem ba0 {l : Li} (hl : l.ok) (hli : liE l = 0) {body pt : Int} (h1 : inB body l.bodies.length = true) (h2 : inB pt (aez l body).length = true) : ∃ n k bd m, MkP l body pt n k bd m := by
 obtain ⟨bd,g1,g2,g3,g4⟩ := ars h1
 rw [g2] at h2
 obtain ⟨m,g5,g6,g7,g8⟩ := aw4 h2
 have hv := bab hli g1 g5
 have ho := (hl.bodies bd g3).pts m g7
 have e : mkQ l body pt = (m.x.q,m.y.q):=by unfold mkQ; rw [g2,g6]
 exact ⟨body.toNat,pt.toNat,bd,m,by omega,by omega,g1,g5,by rw [e]; exact Rt.eq_rt ho.x hv.1,by rw [e]; exact Rt.eq_rt ho.y hv.2,by rw [e]; exact ⟨ho.qx.mono (by omega),ho.qy.mono (by omega)⟩⟩
theorem agi {l : Li} (hl : l.ok) (hli : liE l = 0) {body pt : Int} (h1 : inB body l.bodies.length = true) (h2 : inB pt (aez l body).length = true) : Sm 1000 (mkQ l body pt) := by
 obtain ⟨n,k,bd,m,h⟩ := ba0 hl hli h1 h2
 exact h.sm
def plE (l : Li) (a : As) (body pt : Int) : Et (llq a.rs) × Et (llq a.rs) := bel l a body pt
structure PlP (l : Li) (a : As) (body pt : Int) (n k : Nat) (bd : Bd) (m : Mk) (b : Pl) : Prop where
  mp : MkP l body pt n k bd m
  gb : a.bs[n]? = some b
  eq : bel l a body pt = atP (llq a.rs) b m
  av : b.av = Pq.av ⟨lq b.c,lq b.s,lq b.x,lq b.y⟩
  ok : Pq.ok (llq a.rs).length 4000 ⟨lq b.c,lq b.s,lq b.x,lq b.y⟩
def Pd (a : As) (body : Int) : Prop := ∃ p,a.bs[body.toNat]? = some p /\ abf a.rs p.l = 0
theorem bf2 {l : Li} (hl : l.ok) (hli : liE l = 0) {a : As} (al : AL a) (hc : aey a.rs = 0) {body pt : Int} (h1 : inB body l.bodies.length = true) (h2 : inB pt (aez l body).length = true) (hb : Pd a body) : ∃ n k bd m b, PlP l a body pt n k bd m b := by
 obtain ⟨n,k,bd,m,h⟩ := ba0 hl hli h1 h2
 obtain ⟨b,gb,hb⟩ := hb
 obtain ⟨tw,_⟩ := ab0 al.tr hc
 have h5 : a.rs.length <= 5:=by have := tw.five; rwa [ai4] at this
 have h9 := aoe hb (al.nr b (mem_of_getElem? gb)) h5
 have e : body.toNat = n:=by have := h.hn; omega
 have e2 : pt.toNat = k:=by have := h.hk; omega
 rw [e] at gb
 obtain ⟨bd',g1,g2,_,_⟩ := ars h1
 rw [e] at g1
 have : bd' = bd := Option.some.inj (g1.symm.trans h.gbd)
 subst this
 refine ⟨n,k,bd',m,b,h,gb,?_,h9.1,by rw [ai4]; exact h9.2⟩
 unfold bel
 rw [e,e2,aag gb,g2,aag h.gm]
theorem adb {l : Li} (hl : l.ok) (hli : liE l = 0) {a : As} (al : AL a) (hc : aey a.rs = 0) {body pt : Int} (h1 : inB body l.bodies.length = true) (h2 : inB pt (aez l body).length = true) (hb : Pd a body) :
  Zu 4000 300000 (plE l a body pt).1 40 40 /\ Zu 4000 300000 (plE l a body pt).2 40 40 := by
 obtain ⟨n,k,bd,m,b,hp⟩ := bf2 hl hli al hc h1 h2 hb
 obtain ⟨tw,_⟩ := ab0 al.tr hc
 have kb := kb4 tw.three
 have qx : Qb 4000 m.x.q:=by rw [hp.mp.ex,ah0]; exact hp.mp.sm.x.mono (by omega)
 have qy : Qb 4000 m.y.q:=by rw [hp.mp.ey,ah0]; exact hp.mp.sm.y.mono (by omega)
 have h := bn1 tw hp.ok qx qy
 unfold plE
 rw [hp.eq]
 exact ⟨⟨h.1.mono (by omega)⟩,⟨h.2.mono (by omega)⟩⟩
theorem ai2 {rs : List (List Rt)} {r : Nat} (h : TR rs r) (hc : aey rs = 0) : adv (llq rs) = .agg [.lst 1 (rs.map nR)] := (ab0 h hc).2.symm
theorem bij {x y : Option Blk} {k : Nat} {z : Blk} (h : lk [(1000, x), (1001, y)] k = some z) : 1000 <= k := by
 rw [aab] at h
 split at h
 ·omega
 ·rw [aab] at h
  split at h
  ·omega
  ·cases h
theorem bmm {s : AS} {k k' : Nat} {x y : Blk} (h : lk s.hp k = some x) (h' : lk s.hp k' = some y) : ∀ q z, lk [(k, some x), (k', some y)] q = some z -> lk s.hp q = some z := by
 intro q z hz
 rw [aab] at hz
 split at hz
 ·rename_i e; cases hz; rw [e]; exact h
 ·rw [aab] at hz
  split at hz
  ·rename_i e; cases hz; rw [e]; exact h'
  ·cases hz
def awi (p q : Rat × Rat) : Rat × Rat := (p.1 - q.1,p.2 - q.2)
def a9n (p q : Rat × Rat) : Rat := p.1 * q.1 + p.2 * q.2
def ap2 (p q : Rat × Rat) : Rat := p.1 * q.2 - p.2 * q.1
theorem Sm.sub {e f : Nat} {p q : Rat × Rat} (hp : Sm e p) (hq : Sm f q) : Sm (e + f + 1) (awi p q) := ⟨hp.x.sub hq.x,hp.y.sub hq.y⟩
theorem Sm.dot {e f : Nat} {p q : Rat × Rat} (hp : Sm e p) (hq : Sm f q) : Qb (e + f + (e + f) + 1) (a9n p q) := (hp.x.mul hq.x).add (hp.y.mul hq.y)
theorem Sm.cross {e f : Nat} {p q : Rat × Rat} (hp : Sm e p) (hq : Sm f q) : Qb (e + f + (e + f) + 1) (ap2 p q) := (hp.x.mul hq.y).sub (hp.y.mul hq.x)
theorem Sm.mono {e f : Nat} {p : Rat × Rat} (hp : Sm e p) (h : e <= f) : Sm f p := ⟨hp.x.mono h,hp.y.mono h⟩
theorem asu {q : Rat} {e w : Nat} (h : Qb e q) (he : e <= w * 4000) : Qz 4000 q w := ⟨(Cb.one h).mono he⟩
end Go.Lw
namespace Go.Lw
open Go.Proofs
section
variable {rs : List (List Rt)} {r u k : Nat} {a b c d e : List Rat} {x y z s t : Et (llq rs)} {w v w' v' w2 v2 w3 v3 w4 v4 : Nat}
end
end Go.Lw
namespace Go.Lw
def adg (l : Li) (j : Jt) (b : Int) : Rat × Rat := if j.a = b then mkQ l b j.point else mkQ l b j.on
def ab8 (l : Li) (a : As) (j : Jt) (b : Int) : Et (llq a.rs) × Et (llq a.rs) := if j.a = b then plE l a j.b j.on else plE l a j.a j.point
structure PinP (l : Li) (a : As) (j : Jt) (b : Int) : Prop where
  tie : (j.a = b /\ Pd a j.b) \/ (j.a ≠ b /\ j.b = b /\ Pd a j.a)
theorem PinP.or {l : Li} {a : As} {j : Jt} {b : Int} (h : PinP l a j b) : j.a = b \/ j.b = b := by
 rcases h.tie with h9 | h9
 ·exact .inl h9.1
 ·exact .inr h9.2.1
theorem acv {l : Li} (hl : l.ok) (hli : liE l = 0) {a : As} (al : AL a) (hc : aey a.rs = 0) {i : Nat} {j : Jt} (hj : l.joints[i]? = some j) {b : Int} (h : PinP l a j b) :
  Zu 4000 300000 (ab8 l a j b).1 40 40 /\ Zu 4000 300000 (ab8 l a j b).2 40 40 := by
 obtain ⟨i1,i2,i3,i4,_⟩ := aem hli hj
 unfold ab8
 rcases h.tie with ⟨e,hb⟩ | ⟨e,e2,hb⟩
 ·rw [if_pos e]; exact adb hl hli al hc i2 i4 hb
 ·rw [if_neg e]; exact adb hl hli al hc i1 i3 hb
theorem acs {l : Li} (hl : l.ok) (hli : liE l = 0) {i : Nat} {j : Jt} (hj : l.joints[i]? = some j) {b : Int} (h : j.a = b \/ j.b = b) : Sm 1000 (adg l j b) := by
 obtain ⟨i1,i2,i3,i4,_⟩ := aem hli hj
 unfold adg
 by_cases e : j.a = b
 ·rw [if_pos e]; subst e; exact agi hl hli i1 i3
 ·rw [if_neg e]
  rcases h with h | h
  ·exact absurd h e
  ·subst h; exact agi hl hli i2 i4
theorem bnk {bs : List Int} {b : Int} (h : b ∈ bs) : bs.contains b = true := List.contains_iff_mem.2 h
theorem bin {bs : List Int} {b : Int} (h : b ∉ bs) : bs.contains b = false := by
 cases hc : bs.contains b with
 | false => rfl
 | true => exact absurd (List.contains_iff_mem.1 hc) h
theorem DyOk.ancs {l : Li} {k : Int} {a : As} {own : Bool} {n : Nat} {g : Gr} (h : DyOk l k a own n g) {z b : Int} {j : Jt} (hz : z ∈ g.joints) (hj : l.joints[z.toNat]? = some j) (hb : anc g j = b) (h0 : 0 <= b) : Pd a b := by
 refine h.body ?_ h0
 unfold ndL aiu
 refine List.mem_append_left _ (List.mem_map.2 ⟨z,hz,?_⟩)
 rw [aag hj]; exact hb
theorem DyOk.pin {l : Li} {k : Int} {a : As} {own : Bool} {n : Nat} {g : Gr} (h : DyOk l k a own n g) {kd z b : Int} {j : Jt} {bs : List Int} (hbs : g.bodies = bs) (t : TieO l kd bs z b j) (hz : z ∈ g.joints) (hb : b ∈ bs) : PinP l a j b := by
 subst hbs
 obtain ⟨i1,i2,_⟩ := aem h.li t.hj
 have i1 := ahn i1
 have i2 := ahn i2
 rcases t.tie with ⟨e,hn⟩ | ⟨e,hn⟩
 ·refine ⟨.inl ⟨e, h.ancs hz t.hj ?_ i2.1⟩⟩
  unfold anc
  rw [if_pos (bnk (e ▸ hb)),if_neg (by rw [bin hn]; simp)]
 ·refine ⟨.inr ⟨fun e2 => hn (e2 ▸ hb), e, h.ancs hz t.hj ?_ i1.1⟩⟩
  unfold anc
  rw [if_neg (by rw [bin hn]; simp)]
theorem DyOk.own {l : Li} {k : Int} {a : As} {n : Nat} {g : Gr} (h : DyOk l k a true n g) {b : Int} (hb : b ∈ g.bodies) : Pd a b := by
 refine h.body ?_ (h.ok.b b hb).1
 unfold ndL
 rw [if_pos rfl]
 exact List.mem_append_right _ hb
structure RrrP (l : Li) (a : As) (g : Gr) (i k z0 z1 z2 : Int) (j0 j1 j2 : Jt) : Prop where
  eq : g = ⟨1,[i,k],[z0,z1,z2],0⟩
  h0 : l.joints[z0.toNat]? = some j0
  h1 : l.joints[z1.toNat]? = some j1
  h2 : l.joints[z2.toNat]? = some j2
  p0 : PinP l a j0 i
  p1 : PinP l a j1 k
  t1 : j2.a = i \/ j2.b = i
  t2 : j2.a = k \/ j2.b = k
structure SlP (l : Li) (a : As) (g : Gr) (kd i z0 z1 : Int) (j0 j : Jt) : Prop where
  eq : g = ⟨kd,[i],[z0,z1],0⟩
  h0 : l.joints[z0.toNat]? = some j0
  h1 : l.joints[z1.toNat]? = some j
  p0 : PinP l a j0 i
  p1 : PinP l a j i
  hk : j.kind ≠ 0
theorem DyOk.rrr {l : Li} {k : Int} {a : As} {own : Bool} {n : Nat} {g : Gr} (h : DyOk l k a own n g) (hk : g.kind = 1) : ∃ i k z0 z1 z2 j0 j1 j2, RrrP l a g i k z0 z1 z2 j0 j1 j2 := by
 have hd := h.dy
 cases hd with
 | drv _ _ _ _ => exact absurd hk (by simp)
 | pr _ _ _ => exact absurd hk (by simp)
 | rp _ _ _ => exact absurd hk (by simp)
 | @rrr i k z0 z1 z2 j0 j1 j2 ne t0 t1 h0 h2 kd tie =>
  refine ⟨i,k,z0,z1,z2,j0,j1,j2,rfl,t0.hj,t1.hj,h2,h.pin rfl t0 (by simp) (by simp),h.pin rfl t1 (by simp) (by simp),?_,?_⟩
  ·rcases tie with h9 | h9
   ·exact .inl h9.1
   ·exact .inr h9.1
  ·rcases tie with h9 | h9
   ·exact .inr h9.2
   ·exact .inl h9.2
theorem DyOk.pr {l : Li} {k : Int} {a : As} {own : Bool} {n : Nat} {g : Gr} (h : DyOk l k a own n g) (hk : g.kind = 2) : ∃ i z0 z1 j0 j, SlP l a g 2 i z0 z1 j0 j /\ j.a = i /\ Pd a j.b := by
 have hd := h.dy
 cases hd with
 | drv _ _ _ _ => exact absurd hk (by simp)
 | rrr _ _ _ _ _ _ _ => exact absurd hk (by simp)
 | rp _ _ _ => exact absurd hk (by simp)
 | @pr i z0 z1 j0 j1 t0 t1 ha =>
  have p1 : PinP l a j1 i := h.pin rfl t1 (by simp) (by simp)
  refine ⟨i,z0,z1,j0,j1,⟨rfl,t0.hj,t1.hj,h.pin rfl t0 (by simp) (by simp),p1,by rw [t1.kd]; decide⟩,ha,?_⟩
  rcases p1.tie with h9 | h9
  ·exact h9.2
  ·exact absurd ha h9.1
theorem DyOk.rp {l : Li} {k : Int} {a : As} {own : Bool} {n : Nat} {g : Gr} (h : DyOk l k a own n g) (h0 : g.kind ≠ 0) (h1 : g.kind ≠ 1) (h2 : g.kind ≠ 2) : ∃ i z0 z1 j0 j, SlP l a g 3 i z0 z1 j0 j /\ j.a ≠ i /\ j.b = i /\ Pd a j.a := by
 have hd := h.dy
 cases hd with
 | drv _ _ _ _ => exact absurd rfl h0
 | rrr _ _ _ _ _ _ _ => exact absurd rfl h1
 | pr _ _ _ => exact absurd rfl h2
 | @rp i z0 z1 j0 j1 t0 t1 ha =>
  have p1 : PinP l a j1 i := h.pin rfl t1 (by simp) (by simp)
  refine ⟨i,z0,z1,j0,j1,⟨rfl,t0.hj,t1.hj,h.pin rfl t0 (by simp) (by simp),p1,by rw [t1.kd]; decide⟩,ha,?_⟩
  rcases p1.tie with h9 | h9
  ·exact absurd h9.1 ha
  ·exact ⟨h9.2.1,h9.2.2⟩
def aoE (a : As) (b : Int) (q : Rat × Rat) : Et (llq a.rs) × Et (llq a.rs) :=
  (atX (llq a.rs) (at9 (llq a.rs) (a.bs.getD b.toNat default).c) (at9 (llq a.rs) (a.bs.getD b.toNat default).s) (at9 (llq a.rs) (a.bs.getD b.toNat default).x) q.1 q.2,
   atY (llq a.rs) (at9 (llq a.rs) (a.bs.getD b.toNat default).c) (at9 (llq a.rs) (a.bs.getD b.toNat default).s) (at9 (llq a.rs) (a.bs.getD b.toNat default).y) q.1 q.2)
theorem bnd {ts : List (List Rat)} {r : Nat} (tw : Tw ts r) {b : Pl} {q : Rat × Rat} (hb : Pq.ok ts.length 4000 ⟨lq b.c, lq b.s, lq b.x, lq b.y⟩) (hq : Sm 4000 q) :
  Nm ts.length (4 * (4000 + 4000 + kB r ts.length) + 10000) (sh ts.length (atX ts (at9 ts b.c) (at9 ts b.s) (at9 ts b.x) q.1 q.2)) /\ Nm ts.length (4 * (4000 + 4000 + kB r ts.length) + 10000) (sh ts.length (atY ts (at9 ts b.c) (at9 ts b.s) (at9 ts b.y) q.1 q.2)) := by
 have nx := Nm.ofQ tw.five (Cb.one hq.x)
 have ny := Nm.ofQ tw.five (Cb.one hq.y)
 have h1 := (aln tw hb.c hb.s nx ny).add hb.x
 rw [awn] at h1
 have h2 := (ak4 tw hb.c hb.s nx ny).add hb.y
 rw [awm] at h2
 exact ⟨h1.mono (by omega),h2.mono (by omega)⟩
theorem aq4 {a : As} (al : AL a) (hc : aey a.rs = 0) {b : Int} (hb : Pd a b) {q : Rat × Rat} (hq : Sm 1000 q) : Zu 4000 300000 (aoE a b q).1 40 40 /\ Zu 4000 300000 (aoE a b q).2 40 40 := by
 obtain ⟨p,hp,hn⟩ := hb
 obtain ⟨tw,_⟩ := ab0 al.tr hc
 have h5 : a.rs.length <= 5:=by have := tw.five; rwa [ai4] at this
 have h9 := (aoe hn (al.nr p (mem_of_getElem? hp)) h5).2
 rw [<- ai4 a.rs] at h9
 have kb := kb4 tw.three
 have h := bnd tw h9 (hq.mono (f := 4000) (by omega))
 unfold aoE
 rw [aag hp]
 exact ⟨⟨h.1.mono (by omega)⟩,⟨h.2.mono (by omega)⟩⟩
def sqQ (c p : Rat × Rat) : Rat := a9n (awi c p) (awi c p)
theorem bon {e f : Nat} {c p : Rat × Rat} (hc : Sm e c) (hp : Sm f p) : Qb (e + f + 1 + (e + f + 1) + (e + f + 1 + (e + f + 1)) + 1) (sqQ c p) := (hc.sub hp).dot (hc.sub hp)
def jAt (l : Li) (g : Gr) (n : Nat) : Jt := l.joints.getD (g.joints.getD n 0).toNat default
def bAt (g : Gr) (n : Nat) : Int := g.bodies.getD n 0
section
variable (l : Li) (a : As)
def rpV (i : Int) (j : Jt) : Rat × Rat := awi (mkQ l i j.to) (mkQ l i j.on)
def rpH (i : Int) (j0 j : Jt) : Rat := ap2 (rpV l i j) (awi (mkQ l i j.on) (adg l j0 i))
def rpN (i : Int) (j : Jt) : Rat := a9n (rpV l i j) (rpV l i j)
def sbE {ts : List (List Rat)} (p q : Et ts × Et ts) : Et ts × Et ts := (p.1 - q.1,p.2 - q.2)
def am3 {ts : List (List Rat)} (p q : Et ts × Et ts) : Et ts := dotE p.1 p.2 q.1 q.2
def ang {ts : List (List Rat)} (p q : Et ts × Et ts) : Et ts := crsE p.1 p.2 q.1 q.2
def rpW (i : Int) (j0 j : Jt) : Et (llq a.rs) × Et (llq a.rs) := sbE (plE l a j.a j.point) (ab8 l a j0 i)
def rpD (i : Int) (j0 j : Jt) : Et (llq a.rs) := am3 (rpW l a i j0 j) (rpW l a i j0 j)
def aw8 (g : Gr) : Et (llq a.rs) :=
  if g.kind = 0 then qE 1
  else if g.kind = 1 then
    qE 4 * (qE (sqQ (adg l (jAt l g 2) (bAt g 0)) (adg l (jAt l g 0) (bAt g 0))) * am3 (sbE (ab8 l a (jAt l g 0) (bAt g 0)) (ab8 l a (jAt l g 1) (bAt g 1))) (sbE (ab8 l a (jAt l g 0) (bAt g 0)) (ab8 l a (jAt l g 1) (bAt g 1))))
      - ((qE (sqQ (adg l (jAt l g 2) (bAt g 0)) (adg l (jAt l g 0) (bAt g 0))) + am3 (sbE (ab8 l a (jAt l g 0) (bAt g 0)) (ab8 l a (jAt l g 1) (bAt g 1))) (sbE (ab8 l a (jAt l g 0) (bAt g 0)) (ab8 l a (jAt l g 1) (bAt g 1)))) - qE (sqQ (adg l (jAt l g 2) (bAt g 1)) (adg l (jAt l g 1) (bAt g 1))))
        * ((qE (sqQ (adg l (jAt l g 2) (bAt g 0)) (adg l (jAt l g 0) (bAt g 0))) + am3 (sbE (ab8 l a (jAt l g 0) (bAt g 0)) (ab8 l a (jAt l g 1) (bAt g 1))) (sbE (ab8 l a (jAt l g 0) (bAt g 0)) (ab8 l a (jAt l g 1) (bAt g 1)))) - qE (sqQ (adg l (jAt l g 2) (bAt g 1)) (adg l (jAt l g 1) (bAt g 1))))
  else if g.kind = 2 then
    am3 (sbE (plE l a (jAt l g 1).b (jAt l g 1).to) (plE l a (jAt l g 1).b (jAt l g 1).on)) (sbE (plE l a (jAt l g 1).b (jAt l g 1).to) (plE l a (jAt l g 1).b (jAt l g 1).on)) * qE (sqQ (mkQ l (bAt g 0) (jAt l g 1).point) (adg l (jAt l g 0) (bAt g 0)))
      - ang (sbE (plE l a (jAt l g 1).b (jAt l g 1).to) (plE l a (jAt l g 1).b (jAt l g 1).on)) (sbE (ab8 l a (jAt l g 0) (bAt g 0)) (plE l a (jAt l g 1).b (jAt l g 1).on))
        * ang (sbE (plE l a (jAt l g 1).b (jAt l g 1).to) (plE l a (jAt l g 1).b (jAt l g 1).on)) (sbE (ab8 l a (jAt l g 0) (bAt g 0)) (plE l a (jAt l g 1).b (jAt l g 1).on))
  else qE (rpN l (bAt g 0) (jAt l g 1)) * rpD l a (bAt g 0) (jAt l g 0) (jAt l g 1) - qE (rpH l (bAt g 0) (jAt l g 0) (jAt l g 1)) * qE (rpH l (bAt g 0) (jAt l g 0) (jAt l g 1))
def ar5 (g : Gr) : Et (llq a.rs) :=
  if g.kind = 0 then qE 1
  else if g.kind = 1 then ang (sbE (ab8 l a (jAt l g 1) (bAt g 1)) (ab8 l a (jAt l g 0) (bAt g 0))) (sbE (aoE a (bAt g 0) (adg l (jAt l g 2) (bAt g 0))) (ab8 l a (jAt l g 0) (bAt g 0)))
  else if g.kind = 2 then am3 (sbE (plE l a (jAt l g 1).b (jAt l g 1).to) (plE l a (jAt l g 1).b (jAt l g 1).on)) (sbE (aoE a (bAt g 0) (mkQ l (bAt g 0) (jAt l g 1).point)) (ab8 l a (jAt l g 0) (bAt g 0)))
  else am3 (sbE (plE l a (jAt l g 1).b (jAt l g 1).to) (plE l a (jAt l g 1).b (jAt l g 1).on)) (rpW l a (bAt g 0) (jAt l g 0) (jAt l g 1))
end
section
variable {l : Li} {a : As} {g : Gr}
theorem RrrP.at {i k z0 z1 z2 : Int} {j0 j1 j2 : Jt} (h : RrrP l a g i k z0 z1 z2 j0 j1 j2) : jAt l g 0 = j0 /\ jAt l g 1 = j1 /\ jAt l g 2 = j2 /\ bAt g 0 = i /\ bAt g 1 = k /\ g.kind = 1 := by
 rw [h.eq]
 exact ⟨aag h.h0,aag h.h1,aag h.h2,rfl,rfl,rfl⟩
theorem SlP.at {kd i z0 z1 : Int} {j0 j : Jt} (h : SlP l a g kd i z0 z1 j0 j) : jAt l g 0 = j0 /\ jAt l g 1 = j /\ bAt g 0 = i /\ g.kind = kd := by
 rw [h.eq]
 exact ⟨aag h.h0,aag h.h1,rfl,rfl⟩
end
end Go.Lw
namespace Go.Lw
section
variable {ts : List (List Rat)}
def qv (p : Rat × Rat) : Et ts × Et ts := (qE p.1,qE p.2)
theorem alj (p q : Rat × Rat) : sbE (qv p : Et ts × Et ts) (qv q) = qv (awi p q) := by
 unfold sbE qv awi
 rw [a9b,a9b]
theorem a1h (p q : Rat × Rat) : am3 (qv p : Et ts × Et ts) (qv q) = qE (a9n p q) := by
 unfold am3 dotE qv a9n
 rw [bd7,azj,azj]
theorem a5f (p q : Rat × Rat) : ang (qv p : Et ts × Et ts) (qv q) = qE (ap2 p q) := by
 unfold ang crsE qv ap2
 rw [a9b,azj,azj]
def d2E (p q : Et ts × Et ts) : Et ts := am3 (sbE p q) (sbE p q)
theorem axi (p q : Rat × Rat) : d2E (qv p : Et ts × Et ts) (qv q) = qE (sqQ p q) := by
 unfold d2E sqQ
 rw [alj,a1h]
theorem bos (q : Rat) : sgE (qE q : Et ts) = aj2 q := T.sgn_ofQ _ _ q
theorem bc6 (x : Rat) : 0 <= x * x := by
 rcases (Rat.le_total : 0 <= x \/ x <= 0) with h | h
 ·exact Rat.mul_nonneg h h
 ·have h1 : 0 <= -x := by grind
  have h2 := Rat.mul_nonneg h1 h1
  grind
theorem bes (p q : Rat × Rat) : 0 <= sqQ p q := by
 unfold sqQ a9n awi
 have h1 := bc6 (p.1 - q.1)
 have h2 := bc6 (p.2 - q.2)
 dsimp only
 grind
theorem bla (p q : Rat × Rat) : 0 <= sgE (qE (sqQ p q) : Et ts) := by
 rw [bos]
 have h := bes p q
 unfold aj2
 split
 ·grind
 ·split <;> omega
def bhk (p : Et ts × Et ts) (r : Et ts) (q : Et ts × Et ts) (s : Et ts) : Et ts := qE 4 * (r * d2E p q) - ((r + d2E p q) - s) * ((r + d2E p q) - s)
end
section
variable {l : Li} {a : As} {g : Gr}
theorem a8l {i k z0 z1 z2 : Int} {j0 j1 j2 : Jt} (h : RrrP l a g i k z0 z1 z2 j0 j1 j2) :
  aw8 l a g = bhk (ab8 l a j0 i) (d2E (qv (adg l j2 i)) (qv (adg l j0 i))) (ab8 l a j1 k) (d2E (qv (adg l j2 k)) (qv (adg l j1 k))) := by
 obtain ⟨e0,e1,e2,b0,b1,hk⟩ := h.at
 unfold aw8 bhk
 rw [if_neg (by omega),if_pos hk,e0,e1,e2,b0,b1,axi,axi]
 rfl
theorem a5h {i z0 z1 : Int} {j0 j : Jt} (h : SlP l a g 2 i z0 z1 j0 j) :
  aw8 l a g = am3 (sbE (plE l a j.b j.to) (plE l a j.b j.on)) (sbE (plE l a j.b j.to) (plE l a j.b j.on)) * d2E (qv (mkQ l i j.point)) (qv (adg l j0 i))
   - ang (sbE (plE l a j.b j.to) (plE l a j.b j.on)) (sbE (ab8 l a j0 i) (plE l a j.b j.on)) * ang (sbE (plE l a j.b j.to) (plE l a j.b j.on)) (sbE (ab8 l a j0 i) (plE l a j.b j.on)) := by
 obtain ⟨e0,e1,b0,hk⟩ := h.at
 unfold aw8
 rw [if_neg (by omega),if_neg (by omega),if_pos hk,e0,e1,b0,axi]
theorem bdv {i z0 z1 : Int} {j0 j : Jt} (h : SlP l a g 3 i z0 z1 j0 j) :
  aw8 l a g = am3 (sbE (qv (mkQ l i j.to)) (qv (mkQ l i j.on))) (sbE (qv (mkQ l i j.to)) (qv (mkQ l i j.on))) * d2E (plE l a j.a j.point) (ab8 l a j0 i)
   - ang (sbE (qv (mkQ l i j.to)) (qv (mkQ l i j.on))) (sbE (qv (mkQ l i j.on)) (qv (adg l j0 i))) * ang (sbE (qv (mkQ l i j.to)) (qv (mkQ l i j.on))) (sbE (qv (mkQ l i j.on)) (qv (adg l j0 i))) := by
 obtain ⟨e0,e1,b0,hk⟩ := h.at
 unfold aw8
 rw [if_neg (by omega),if_neg (by omega),if_neg (by omega),e0,e1,b0,alj,alj,a1h,a5f]
 rfl
theorem bc0 {i k z0 z1 z2 : Int} {j0 j1 j2 : Jt} (h : RrrP l a g i k z0 z1 z2 j0 j1 j2) :
  ar5 l a g = ang (sbE (ab8 l a j1 k) (ab8 l a j0 i)) (sbE (aoE a i (adg l j2 i)) (ab8 l a j0 i)) := by
 obtain ⟨e0,e1,e2,b0,b1,hk⟩ := h.at
 unfold ar5
 rw [if_neg (by omega),if_pos hk,e0,e1,e2,b0,b1]
theorem bcy {i z0 z1 : Int} {j0 j : Jt} (h : SlP l a g 2 i z0 z1 j0 j) :
  ar5 l a g = am3 (sbE (plE l a j.b j.to) (plE l a j.b j.on)) (sbE (aoE a i (mkQ l i j.point)) (ab8 l a j0 i)) := by
 obtain ⟨e0,e1,b0,hk⟩ := h.at
 unfold ar5
 rw [if_neg (by omega),if_neg (by omega),if_pos hk,e0,e1,b0]
theorem bd3 {i z0 z1 : Int} {j0 j : Jt} (h : SlP l a g 3 i z0 z1 j0 j) (hj : j.b = i) :
  ar5 l a g = am3 (sbE (aoE a i (mkQ l i j.to)) (aoE a i (mkQ l i j.on))) (sbE (plE l a j.a j.point) (ab8 l a j0 i)) := by
 obtain ⟨e0,e1,b0,hk⟩ := h.at
 unfold ar5
 rw [if_neg (by omega),if_neg (by omega),if_neg (by omega),e0,e1,b0,hj]
 rfl
end
end Go.Lw
namespace Go.Lw
structure Ld where
  body : Int
  x : Rt
  y : Rt
  fx : Rt
  fy : Rt
  m : Rt
instance : Inhabited Ld := ⟨⟨0,⟨false,[],[]⟩,⟨false,[],[]⟩,⟨false,[],[]⟩,⟨false,[],[]⟩,⟨false,[],[]⟩⟩⟩
def Ld.l (f : Ld) : List Rt := [f.x,f.y,f.fx,f.fy,f.m]
def Ld.cells (f : Ld) : List AV := [i64 f.body,bl f.x.neg,ws f.x.num,ws f.x.den,bl f.y.neg,ws f.y.num,ws f.y.den,bl f.fx.neg,ws f.fx.num,ws f.fx.den,bl f.fy.neg,ws f.fy.num,ws f.fy.den,bl f.m.neg,ws f.m.num,ws f.m.den]
def Ld.av (f : Ld) : AV := .agg f.cells
section
variable (a : As)
end
section
variable {a : As} {r : List Vr}
end
end Go.Lw
namespace Go.Lw
structure LdOk (f : Ld) : Prop where
  ok : ∀ x ∈ f.l,x.ok
  qb : ∀ x ∈ f.l,Qb 4000 x.q
def bof (f : Ld) : Prop := ∀ x ∈ f.l,x.ok /\ Qb 1000 x.q
theorem bof.o {f : Ld} (h : bof f) : LdOk f := ⟨fun x hx => (h x hx).1,fun x hx => (h x hx).2.mono (by omega)⟩
end Go.Lw
namespace Go.Lw
structure Bulk {H : Type} (bk : DataW H -> Nat) (bka : List (DataW H) -> Nat) : Prop where
  one : ∀ d,1 <= bk d
  nil : bka [] = 0
  cons : ∀ d l,bka (d :: l) = bk d + bka l
  slice : ∀ e s,bka e + 1 <= bk (.slice e s)
  agg : ∀ l,bka l <= bk (.agg l)
section
variable {P : Program} {W : World} {H : Type} {enc : TypeId × Value -> H} {bk : DataW H -> Nat} {bka : List (DataW H) -> Nat}
theorem Bulk.pick (B : Bulk bk bka) {α : Type} {m : α -> Nat} : ∀ {l : List α} {xs : List (DataW H)}, l.length <= xs.length -> (∀ (i : Nat) (a : α), l[i]? = some a -> ∃ x, xs[i]? = some x /\ m a <= bk x) -> (l.map m).sum <= bka xs
 | [],xs,_,_ => by simp
 | a :: l,[],hl,_ => by simp at hl
 | a :: l, x :: xs, hl, h => by
  obtain ⟨y,hy,h1⟩ := h 0 a rfl
  cases hy
  have h2 := B.pick (l := l) (xs := xs) (by simpa using hl) (fun i b hb => h (i + 1) b hb)
  rw [B.cons,map_cons,List.sum_cons]
  omega
def au6 (P : Program) (W : World) (enc : TypeId × Value -> H) (bk : DataW H -> Nat) (t : TypeId) {α : Type} (f : α -> AV) (p : α -> Prop) (m : α -> Nat) : Prop :=
  ∀ (sp : Nat -> Bool) (fuel : Nat) (cs : List Value) (x : DataW H × List MemPlace),DataW.trod enc P W 0 sp true fuel t cs = some x -> (∀ n ∈ x.1.weights P t,n <= reachBytes) -> ∃ a,p a /\ CRp W cs (f a).cells /\ m a <= bk x.1
theorem ado.m {t : TypeId} {α : Type} {f : α -> AV} {p : α -> Prop} (h : ado P W enc t f p) : au6 P W enc bk t f p (fun _ => 0) := by
 intro sp fuel cs x hx hw
 obtain ⟨a,h1,h2⟩ := h sp fuel cs x hx hw
 exact ⟨a,h1,h2,zero_le _⟩
theorem ado.m1 (B : Bulk bk bka) {t : TypeId} {α : Type} {f : α -> AV} {p : α -> Prop} (h : ado P W enc t f p) : au6 P W enc bk t f p (fun _ => 1) := by
 intro sp fuel cs x hx hw
 obtain ⟨a,h1,h2⟩ := h sp fuel cs x hx hw
 exact ⟨a,h1,h2,B.one _⟩
theorem au6.map {α β : Type} {t : TypeId} {f : α -> AV} {p : α -> Prop} {m : α -> Nat} (h : au6 P W enc bk t f p m) (g : α -> β) (f' : β -> AV) (p' : β -> Prop) (m' : β -> Nat) (hg : ∀ a, p a -> p' (g a) /\ f' (g a) = f a /\ m' (g a) <= m a) : au6 P W enc bk t f' p' m' := by
 intro sp fuel cs x hx hwt
 obtain ⟨a,ha,hc,hm⟩ := h sp fuel cs x hx hwt
 obtain ⟨h1,h2,h3⟩ := hg a ha
 exact ⟨g a,h1,by rw [h2]; exact hc,le_trans h3 hm⟩
end
end Go.Lw
namespace Go.Lw
open Go.Proofs
section
variable {W : World} {H : Type} {enc : TypeId × Value -> H}
theorem bi3 : ado prog W enc 271 (fun n : Nat => u32 n) (fun n => n < 4294967296) :=
 (aw2 (k := .u32) Tryz.underlying271).map Int.toNat _ _ (fun n h => by
  have h1 : 0 <= n /\ n <= 4294967295:=by simpa [Lit.wf,IntKind.min,IntKind.max,IntKind.signed,IntKind.bits] using h
  have h2 : ((n.toNat : Nat) : Int) = n:=by omega
  exact ⟨by omega,by unfold u32; rw [h2]⟩)
theorem bls : ado prog W enc 80 ws (fun l => Ws l /\ l.length <= 281474976710656) :=
 (ac4 Tryz.underlying80 (n := 1) (by kernel_rfl) (by omega) (by kernel_rfl) bi3 (fun _ => rfl)).map id _ _ (fun l h => ⟨⟨fun x hx => h.1 x hx,h.2⟩,rfl⟩)
theorem bf1 : ado prog W enc 4 bl (fun _ => True) := a2r Tryz.underlying4
theorem alt : ado prog W enc 3 i64 (fun _ => True) := (aw2 (k := .i64) Tryz.underlying3).map id _ _ (fun n h => ⟨trivial,rfl⟩)
theorem auc : ado prog W enc 9 (fun s : ByteArray => AV.v (.string s)) (fun s => s.size <= 281474976710656) := awk Tryz.underlying9
theorem a4j : ado prog W enc 82 Rt.av Rt.wok :=
 (acp (n := 3) Tryz.underlying82 (by kernel_rfl)
  (.cons rfl (n := 1) (by kernel_rfl) bf1 (fun _ => rfl) (.cons rfl (n := 1) (by kernel_rfl) bls (fun _ => rfl) (.cons rfl (n := 1) (by kernel_rfl) bls (fun _ => rfl) (.nil _)))) (fun _ => rfl)).map
  (fun z => ⟨z.1,z.2.1,z.2.2.1⟩) _ _ (fun z h => ⟨⟨h.2.1.1,h.2.2.1.1⟩,rfl⟩)
def bn6 (x : List Rt) : Prop := (∀ r ∈ x,r.wok) /\ x.length <= 281474976710656
theorem avx : ado prog W enc 38 nR bn6 := ac4 Tryz.underlying38 (n := 3) (by kernel_rfl) (by omega) (by kernel_rfl) a4j (fun _ => rfl)
theorem bg9 : ado prog W enc 27 (fun l : List (List Rt) => .lst 1 (l.map nR)) (fun l => aqx l /\ l.length <= 281474976710656) :=
 ac4 Tryz.underlying27 (n := 1) (by kernel_rfl) (by omega) (by kernel_rfl) avx (fun _ => rfl)
theorem bcb : ado prog W enc 29 agh (fun l => aqx l /\ l.length <= 281474976710656) :=
 (acp (n := 1) Tryz.underlying29 (by kernel_rfl) (.cons rfl (n := 1) (by kernel_rfl) bg9 (fun _ => rfl) (.nil _)) (fun _ => rfl)).map (fun z => z.1) _ _ (fun z h => ⟨h.1,rfl⟩)
theorem a5x : ado prog W enc 107 Pl.av (fun b => aqx b.l) :=
 (acp (n := 4) Tryz.underlying107 (by kernel_rfl)
  (.cons rfl (n := 1) (by kernel_rfl) avx (fun _ => rfl) (.cons rfl (n := 1) (by kernel_rfl) avx (fun _ => rfl) (.cons rfl (n := 1) (by kernel_rfl) avx (fun _ => rfl) (.cons rfl (n := 1) (by kernel_rfl) avx (fun _ => rfl) (.nil _))))) (fun _ => rfl)).map
  (fun z => ⟨z.1, z.2.1, z.2.2.1, z.2.2.2.1⟩) _ _ (fun z h => ⟨by
   intro x hx
   simp only [Pl.l,mem_cons,not_mem_nil,or_false] at hx
   rcases hx with rfl | rfl | rfl | rfl
   ·exact h.1
   ·exact h.2.1
   ·exact h.2.2.1
   ·exact h.2.2.2.1,rfl⟩)
theorem a2d : ado prog W enc 30 (fun l : List Pl => .lst 4 (l.map Pl.av)) (fun l => (∀ b ∈ l, aqx b.l) /\ l.length <= 281474976710656) :=
 ac4 Tryz.underlying30 (n := 4) (by kernel_rfl) (by omega) (by kernel_rfl) a5x (fun _ => rfl)
theorem bg3 : ado prog W enc 31 (fun l : List Int => .lst 1 (l.map i64)) (fun l => (∀ b ∈ l, True) /\ l.length <= 281474976710656) :=
 ac4 Tryz.underlying31 (n := 1) (by kernel_rfl) (by omega) (by kernel_rfl) alt (fun _ => rfl)
abbrev asG (a : As) : List AV := [.lst 1 (a.rs.map nR),.lst 4 (a.bs.map Pl.av),.lst 1 (a.ms.map i64)]
theorem bk9 : ado prog W enc 33 (fun a : As => .agg (asG a)) As.ok :=
 (acp (n := 3) Tryz.underlying33 (by kernel_rfl)
  (.cons rfl (n := 1) (by kernel_rfl) bcb (fun _ => rfl) (.cons rfl (n := 1) (by kernel_rfl) a2d (fun _ => rfl) (.cons rfl (n := 1) (by kernel_rfl) bg3 (fun _ => rfl) (.nil _)))) (fun _ => rfl)).map
  (fun z => ⟨z.1,z.2.1,z.2.2.1⟩) _ _ (fun z h => ⟨⟨h.1.1,h.1.2,h.2.1.1,h.2.1.2⟩,rfl⟩)
theorem bg1 : ado prog W enc 120 Mk.av (fun m => m.name.size <= 281474976710656 /\ m.x.wok /\ m.y.wok) :=
 (acp (n := 7) Tryz.underlying120 (by kernel_rfl)
  (.cons rfl (n := 1) (by kernel_rfl) auc (fun _ => rfl) (.cons rfl (n := 3) (by kernel_rfl) a4j (fun _ => rfl) (.cons rfl (n := 3) (by kernel_rfl) a4j (fun _ => rfl) (.nil _)))) (fun _ => rfl)).map
  (fun z => ⟨z.1,z.2.1,z.2.2.1⟩) _ _ (fun z h => ⟨⟨h.1,h.2.1,h.2.2.1⟩,rfl⟩)
theorem bd9 : ado prog W enc 118 Bd.av (fun b => b.name.size <= 281474976710656 /\ b.pts.length <= 281474976710656 /\ ∀ m ∈ b.pts, m.name.size <= 281474976710656 /\ m.x.wok /\ m.y.wok) :=
 (acp (n := 2) Tryz.underlying118 (by kernel_rfl)
  (.cons rfl (n := 1) (by kernel_rfl) auc (fun _ => rfl) (.cons rfl (n := 1) (by kernel_rfl) (ac4 Tryz.underlying116 (n := 7) (by kernel_rfl) (by omega) (by kernel_rfl) bg1 (fun _ => rfl)) (fun _ => rfl) (.nil _))) (fun _ => rfl)).map
  (fun z => ⟨z.1,z.2.1⟩) _ _ (fun z h => ⟨⟨h.1,h.2.1.2,h.2.1.1⟩,rfl⟩)
theorem bao : ado prog W enc 157 Jt.av (fun j => j.name.size <= 281474976710656) :=
 (acp (n := 7) Tryz.underlying157 (by kernel_rfl)
  (.cons rfl (n := 1) (by kernel_rfl) auc (fun _ => rfl) (.cons rfl (n := 1) (by kernel_rfl) alt (fun _ => rfl) (.cons rfl (n := 1) (by kernel_rfl) alt (fun _ => rfl) (.cons rfl (n := 1) (by kernel_rfl) alt (fun _ => rfl)
   (.cons rfl (n := 1) (by kernel_rfl) alt (fun _ => rfl) (.cons rfl (n := 1) (by kernel_rfl) alt (fun _ => rfl) (.cons rfl (n := 1) (by kernel_rfl) alt (fun _ => rfl) (.nil _)))))))) (fun _ => rfl)).map
  (fun z => ⟨z.1,z.2.1,z.2.2.1,z.2.2.2.1,z.2.2.2.2.1,z.2.2.2.2.2.1,z.2.2.2.2.2.2.1⟩) _ _ (fun z h => ⟨h.1,rfl⟩)
theorem a43 : ado prog W enc 190 Dr.av (fun d => d.name.size <= 281474976710656) :=
 (acp (n := 2) Tryz.underlying190 (by kernel_rfl) (.cons rfl (n := 1) (by kernel_rfl) auc (fun _ => rfl) (.cons rfl (n := 1) (by kernel_rfl) alt (fun _ => rfl) (.nil _))) (fun _ => rfl)).map
  (fun z => ⟨z.1,z.2.1⟩) _ _ (fun z h => ⟨h.1,rfl⟩)
abbrev liG (l : Li) : List AV := [.v (.string l.name),.lst 2 (l.bodies.map Bd.av),.lst 7 (l.joints.map Jt.av),.lst 2 (l.drivers.map Dr.av)]
theorem bgi : ado prog W enc 26 (fun l : Li => .agg (liG l)) Li.okw :=
 (acp (n := 4) Tryz.underlying26 (by kernel_rfl)
  (.cons rfl (n := 1) (by kernel_rfl) auc (fun _ => rfl)
   (.cons rfl (n := 1) (by kernel_rfl) (ac4 Tryz.underlying22 (n := 2) (by kernel_rfl) (by omega) (by kernel_rfl) bd9 (fun _ => rfl)) (fun _ => rfl)
    (.cons rfl (n := 1) (by kernel_rfl) (ac4 Tryz.underlying23 (n := 7) (by kernel_rfl) (by omega) (by kernel_rfl) bao (fun _ => rfl)) (fun _ => rfl)
     (.cons rfl (n := 1) (by kernel_rfl) (ac4 Tryz.underlying24 (n := 2) (by kernel_rfl) (by omega) (by kernel_rfl) a43 (fun _ => rfl)) (fun _ => rfl) (.nil _))))) (fun _ => rfl)).map
  (fun z => ⟨z.1,z.2.1,z.2.2.1,z.2.2.2.1⟩) _ _ (fun z h => ⟨⟨h.1,h.2.1.1,h.2.2.1.1,h.2.2.2.1.1,h.2.1.2,h.2.2.1.2,h.2.2.2.1.2⟩,rfl⟩)
end
end Go.Lw
namespace Go.Lw
open Go.Proofs Go.Proofs.YtjidoooidfcjgaaGreat
open Go.ChangeShapes Go.WideShapes Go.ChangeAt Go.RowKit
theorem own : ownKnob prog.godebug = none:=by kernel_rfl
theorem a57 : laidOutB prog = true:=by kernel_rfl
theorem a98 : prog.stopsHeard = true:=by kernel_rfl
theorem bbo : prog.plainKeys = true:=by kernel_rfl
theorem bfa : mapsRowed prog = true:=by kernel_rfl
theorem bay : prog.mayEnter = true:=by kernel_rfl
theorem ba6 : prog.liftsFinal = false:=by kernel_rfl
theorem avh {v : Value} (h : ∀ cs, v ≠ .agg cs) : v.cells = #[v] := by
 cases v <;> first | rfl | exact absurd rfl (h _)
theorem a2a {P : Program} {W : World} {r : Reach} {b0 : Nat} {t : TypeId} {k : IntKind} {v : Value} (ht : P.underlying t = some (.int k)) (hval : Value.okWide P W r b0 t v) : v.cells = #[v] := by
 refine avh (fun cs h => ?_)
 subst h
 unfold Value.okWide at hval
 rw [ht] at hval
 unfold Cell.okWide at hval
 rw [ht] at hval
 unfold Cell.ok at hval
 rw [ht] at hval
 exact hval
theorem at0 {H : Type} {enc : TypeId × Value -> H} {W W' : World} {t : TypeId} {v : Value} {d : DataW H} {ps : List MemPlace} {sp' : Nat -> Bool} (hr : prog.readableRec t = true) (ht : t < prog.types.size)
  (h : DataW.Trod enc prog W 0 (fun _ => true) true t v d ps) (hb : Below W.heap.size W W') (hlt : ∀ x ∈ ps,x.block < W.heap.size) (hs : ∀ p ∈ ps,sp' p.block = true) : DataW.Trod enc prog W' 0 sp' true t v d ps :=
 WideElems.Trod_stays a57 hr ht h (fun x hx => hb.same (hlt x hx)) hs
end Go.Lw
namespace Go.Lw
open Go.Proofs
abbrev fdC (l : Li) (known driven : List Bool) (r : List AV) : List AV := l.av.cells ++ (.lst 1 (known.map bl) :: .lst 1 (driven.map bl) :: r)
theorem a6q (j : Jt) (b : Int) : FnC prog 448 [j.av, i64 b] (i64 (aiv j b)) := by
 refine gF0 func448 ?_
 refine gC (fun ht6 => ?_) (fun ht6 => ?_)
 ·have h1 : b = j.a := ae9 ht6
  refine gE1 ?_
  unfold aiv; rw [if_pos h1]
 ·have h1 : b ≠ j.a := afy ht6
  refine gC (fun ht12 => ?_) (fun ht12 => ?_)
  ·have h2 : b = j.b := ae9 ht12
   refine gE1 ?_
   unfold aiv; rw [if_neg h1,if_pos h2]
  ·have h2 : b ≠ j.b := afy ht12
   refine gE1 ?_
   unfold aiv; rw [if_neg h1,if_neg h2]; rfl
theorem a24 (j : Jt) (kind body : Int) (f : FuncId) (pre caps : List AV) (p : Int -> Bool) (hp : 0 <= aiv j body -> FnC prog f (pre ++ [i64 (aiv j body)] ++ caps) (bl (p (aiv j body)))) :
  FnC prog 447 [j.av,.iptr [i64 body],.iptr [i64 kind],.iptr [.cl f pre caps]] (bl (bl5 kind body p j)) := by
 refine gF0 func447 ?_
 refine gc (a6q j body) ?_
 refine gcG (fun h => (hp (bow h))) ?_
 refine gE1 ?_
 exact congrArg bl bik
theorem ane (bs : List Jt) (hl : bs.length <= 281474976710656) (f : FuncId) (pre caps : List AV) (ok : Nat -> Bool)
  (hf : ∀ (i : Nat) (b : Jt),bs[i]? = some b -> (∀ j,j < i -> ok j = true) -> FnC prog f (pre ++ [b.av] ++ caps) (bl (!ok i))) :
  FnC prog 446 [.lst 7 (bs.map Jt.av),.cl f pre caps] (i64 (ixI (acw bs.length ok))) := by
 refine gF0 func446 ?_
 refine gl ?_
 refine gL1 [0,1,7] [] (fun (i : Nat) => [(8,some (i64 i))]) (fun _ => []) (fun i => i <= bs.length /\ ∀ j,j < i -> ok j = true) (fun i => bs.length - i) 0 ⟨zero_le _,fun j h => by omega⟩ ?_
 rintro i ⟨hi,hj⟩ K1 hK1
 refine gC (fun ht9 => ?_) (fun ht9 => ?_)
 ·have hin := abo ht9
  obtain ⟨b,hb⟩ := ab9 hin
  refine gi (aaf hb) ?_
  refine gc (hf i b hb hj) ?_
  refine gC (fun ht16 => ?_) (fun ht16 => ?_)
  ·have h2 := af0 ht16
   refine gE1 ?_
   rw [ada hin hj h2]; rfl
  ·have h2 := afu ht16
   refine ga aau ?_
   exact gK1 hK1 (i + 1) ⟨hin,fun j h9 => by rcases lt_or_ge j i with g | g; exact hj j g; (have : j = i:=by omega); subst this; exact h2⟩
 ·have hin := aan hi ht9
  subst hin
  refine gE1 ?_
  rw [aci hj]; rfl
theorem awy (l : Li) (hl : l.ok) (hli : liE l = 0) (Fd : List AV) (kind body : Int) (f : FuncId) (pre caps : List AV) (p : Int -> Bool)
  (hp : ∀ o : Int,0 <= o -> o < l.bodies.length -> FnC prog f (pre ++ [i64 o] ++ caps) (bl (p o))) :
  FnC prog 434 [.iptr (l.av.cells ++ Fd),i64 kind,i64 body,.cl f pre caps] (i64 (gJ l kind body p)) := by
 refine gF0 func434 ?_ (1,0)
 refine gW ((Wk.freezeB (k := 7) rfl rfl).trans <| (Wk.freezeB (k := 5) rfl rfl).trans <| (Wk.freezeB (k := 6) rfl rfl).trans <| Wk.o (sl := [(0,some (.iptr (l.av.cells ++ Fd))),(5,some (.iptr [i64 kind])),(6,some (.iptr [i64 body])),(7,some (.iptr [.cl f pre caps]))]) (hp := [])) ?_
 refine gc (Con.subA (.cons (.refl _) (.cons (bdp rfl) .nil)) (ane l.joints hl.lj 447 [] [.iptr [i64 body],.iptr [i64 kind],.iptr [.cl f pre caps]] (fun i => !bl5 kind body p (l.joints.getD i default)) (fun i b hb hj => by rw [Bool.not_not,aag hb]; exact a24 b kind body f pre caps p (fun h => hp _ h (a9z hli hb body))))) ?_
 refine gE1 ?_
 rfl
theorem axr (l : Li) (known driven : List Bool) (r : List AV) (b : Int) (h0 : 0 <= b) (h1 : b < known.length) : FnC prog 444 [.iptr (fdC l known driven r), i64 b] (bl (kn known b)) := by
 obtain ⟨v,hv⟩ : ∃ v,known[b.toNat]? = some v := ab9 (by omega)
 have ev : kn known b = v := aag hv
 refine gF0 func444 ?_
 refine gi (adt (n := b.toNat) (by omega) hv) ?_
 refine gE1 ?_
 rw [ev]
theorem anw (l : Li) (hl : l.ok) (hli : liE l = 0) (known driven : List Bool) (hk : known.length = l.bodies.length) (r : List AV) (kind body : Int) :
  FnC prog 432 [.iptr (fdC l known driven r),i64 kind,i64 body] (i64 (gJ l kind body (kn known))) := by
 refine gF0 func432 ?_
 refine gc (awy l hl hli _ kind body 444 [.iptr (fdC l known driven r)] [] (kn known) (fun o h0 h1 => axr l known driven r o h0 (by omega))) ?_
 refine gE1 ?_
 rfl
theorem a4t (o j : Int) : FnC prog 435 [i64 o, .iptr [i64 j]] (bl (decide (o = j))) := by
 refine gF0 func435 ?_
 refine gE1 ?_
 exact congrArg bl am7
theorem bcp (l : Li) (known driven : List Bool) (hd : driven.length = known.length) (r : List AV) (b : Int) (h0 : 0 <= b) (h1 : b < known.length) :
  FnC prog 436 [.iptr (fdC l known driven r),i64 b] (bl (!kn known b && !kn driven b)) := by
 obtain ⟨v,hv⟩ : ∃ v,known[b.toNat]? = some v := ab9 (by omega)
 have ev : kn known b = v := aag hv
 obtain ⟨u,hu⟩ : ∃ u,driven[b.toNat]? = some u := ab9 (by omega)
 have eu : kn driven b = u := aag hu
 refine gF0 func436 ?_
 refine gi (adt (n := b.toNat) (by omega) hv) ?_
 refine giG (fun _ => (adt (n := b.toNat) (by omega) hu)) ?_
 refine gE1 ?_
 rw [ev,eu]; exact congrArg bl (aed _ _)
end Go.Lw
namespace Go.Lw
open Go.Proofs
theorem a2k (l : Li) (hl : l.ok) (hli : liE l = 0) (known driven : List Bool) (hk : known.length = l.bodies.length) (r : List AV) :
  FnC prog 401 [.iptr (fdC l known driven r)] (.tup [((ab2 l known).getD default).av,bl (ab2 l known).isSome]) := by
 have hld := hl.ld
 refine gF0 func401 ?_
 refine gl ?_
 refine gL1 [0,2,11,12] [2] (fun (i : Nat) => [(13,some (i64 i))]) (fun _ => []) (fun i => i <= l.drivers.length /\ ∀ j,j < i -> (!aix l known j) = true) (fun i => l.drivers.length - i) 0 ⟨zero_le _,fun j h => by omega⟩ ?_
 rintro i ⟨hi,hj⟩ K1 hK1
 refine gC (fun ht14 => ?_) (fun ht14 => ?_)
 ·have hin := abo ht14
  obtain ⟨d,hd⟩ := ab9 hin
  have hdd : l.drivers.getD i default = d := aag hd
  have hb := ahn (a2o hli hd)
  obtain ⟨v,hv⟩ : ∃ v,known[d.body.toNat]? = some v := ab9 (by omega)
  have ev : kn known d.body = v := aag hv
  have ej : gJ l 0 d.body (kn known) = abg l 0 d.body known := bhb hli (fun o _ _ => rfl)
  refine gi (aaf hd) ?_
  refine gi (adt (n := d.body.toNat) (by omega) hv) ?_
  refine gD ?_
  refine gC (fun ht25 => ?_) (fun ht25 => ?_)
  ·have h2 : aix l known i = false := by unfold aix; rw [hdd, ev, ht25]; rfl
   refine ga aau ?_
   exact gK1 hK1 (i + 1) ⟨hin,fun k h9 => by rcases lt_or_ge k i with g | g; exact hj k g; (have : k = i:=by omega); subst this; rw [h2]; rfl⟩
  ·have hv0 : v = false := ht25
   refine gc (show FnC _ _ _ (i64 (abg l 0 d.body known)) by rw [<- ej]; exact anw l hl hli known driven hk r 0 d.body) ?_
   refine gC (fun ht31 => ?_) (fun ht31 => ?_)
   ·have h2 : aix l known i = true := by unfold aix; rw [hdd, ev, hv0, decide_eq_true (blj ht31)]; rfl
    have hg : ab2 l known = some ⟨0,[d.body],[abg l 0 d.body known],i⟩:=by unfold ab2; rw [ada hin hj (by rw [h2]; rfl),<- hdd]; rfl
    refine gE2 ?_
    rw [hg]; rfl
   ·have h2 : aix l known i = false := by unfold aix; rw [hdd, decide_eq_false (bk3 ht31), Bool.and_false]
    refine ga aau ?_
    exact gK1 hK1 (i + 1) ⟨hin,fun k h9 => by rcases lt_or_ge k i with g | g; exact hj k g; (have : k = i:=by omega); subst this; rw [h2]; rfl⟩
 ·have hin := aan hi ht14
  subst hin
  have hg : ab2 l known = none:=by unfold ab2; rw [aci hj]; rfl
  refine gR ?_
  exact Fin.sub Fin.pure (by rw [hg]; exact Sub.tup (.cons amt (.cons (.refl _) .nil)))
theorem a8r (l : Li) (hli : liE l = 0) (known : List Bool) (hk : known.length = l.bodies.length) (r : List AV) (b : Nat) (h1 : b < l.bodies.length) :
  FnC prog 436 [.iptr (fdC l known (aaw l) r),i64 b] (bl (ahh l known b)) := by
 have h := bcp l known (aaw l) (by rw [ahy,hk]) r b (by omega) (by omega)
 rw [a33 hli (by omega)] at h
 exact h
theorem az9 (l : Li) (hl : l.ok) (hli : liE l = 0) (known : List Bool) (hk : known.length = l.bodies.length) (r : List AV) (kind body : Int) :
  FnC prog 432 [.iptr (fdC l known (aaw l) r),i64 kind,i64 body] (i64 (abg l kind body known)) := by
 have h := anw l hl hli known (aaw l) hk r kind body
 rw [bhb hli (fun o _ _ => rfl)] at h
 exact h
theorem a1y (l : Li) (hl : l.ok) (hli : liE l = 0) (known : List Bool) (hk : known.length = l.bodies.length) (r : List AV) :
  FnC prog 403 [.iptr (fdC l known (aaw l) r)] (.tup [((acq l known).getD default).av,bl (acq l known).isSome]) := by
 have h8 := (abw hli).2.2.2.1
 refine gF0 func403 ?_
 refine gl ?_
 refine gL1 [0,2,12,13] [2] (fun (i : Nat) => [(14,some (i64 i))]) (fun _ => []) (fun i => i <= l.bodies.length /\ ∀ j,j < i -> (!aiy l known j) = true) (fun i => l.bodies.length - i) 0 ⟨zero_le _,fun j h => by omega⟩ ?_
 rintro i ⟨hi,hj⟩ K1 hK1
 refine gC (fun ht15 => ?_) (fun ht15 => ?_)
 ·have hin := abo ht15
  refine gc (a8r l hli known hk r i hin) ?_
  refine gC (fun ht20 => ?_) (fun ht20 => ?_)
  ·have h2 : aiy l known i = false := by unfold aiy; rw [af0 ht20]; rfl
   refine ga aau ?_
   exact gK1 hK1 (i + 1) ⟨hin,fun k h9 => by rcases lt_or_ge k i with g | g; exact hj k g; (have : k = i:=by omega); subst this; rw [h2]; rfl⟩
  ·have hf := afu ht20
   refine gc (az9 l hl hli known hk r 0 i) ?_
   refine gc (az9 l hl hli known hk r 1 i) ?_
   refine gC (fun ht32 => ?_) (fun ht32 => ?_)
   ·have h2 : aiy l known i = false := by unfold aiy; rw [bhw ht32, Bool.and_false]
    refine ga aau ?_
    exact gK1 hK1 (i + 1) ⟨hin,fun k h9 => by rcases lt_or_ge k i with g | g; exact hj k g; (have : k = i:=by omega); subst this; rw [h2]; rfl⟩
   ·obtain ⟨p0, s0⟩ := blb ht32
    have s1 := (afv (l := l) (kind := 1) (body := i) (oth := known)).2
    have h2 : aiy l known i = true:=by unfold aiy; rw [hf,decide_eq_true p0,decide_eq_true s0]; rfl
    obtain ⟨j,hjt⟩ : ∃ j,l.joints[(abg l 1 i known).toNat]? = some j := ab9 (by omega)
    have hjd : l.joints.getD (abg l 1 i known).toNat default = j := aag hjt
    have hg : acq l known = some (sgG l known i):=by unfold acq; rw [ada hin hj (by rw [h2]; rfl),Option.map_some]
    refine gi (adt (n := (abg l 1 i known).toNat) (by omega) hjt) ?_
    refine gC (fun ht43 => ?_) (fun ht43 => ?_)
    ·have hji : j.a = i := ae9 ht43
     refine gE2 ?_
     rw [hg]; unfold sgG; rw [hjd]; simp only [Option.getD_some,if_pos hji]; rfl
    ·have hji : j.a ≠ i := afy ht43
     refine gE2 ?_
     rw [hg]; unfold sgG; rw [hjd]; simp only [Option.getD_some,if_neg hji]; rfl
 ·have hin := aan hi ht15
  subst hin
  have hg : acq l known = none:=by unfold acq; rw [aci hj]; rfl
  refine gR ?_
  exact Fin.sub Fin.pure (by rw [hg]; exact Sub.tup (.cons amt (.cons (.refl _) .nil)))
theorem a5g (Fd : List AV) : FnC prog 433 [.iptr Fd] (.fn 445 [.iptr [.iptr Fd]]) := by
 refine gF0 func433 ?_ (1,0)
 refine gW ((Wk.freezeB (k := 1) rfl rfl).trans <| Wk.o (sl := [(1,some (.iptr [.iptr Fd]))]) (hp := [])) ?_
 refine gE1 ?_
 rfl
end Go.Lw
namespace Go.Lw
open Go.Proofs
def bl0 : Code -> Option (Array Tmp × Code × Code)
  | .rangeFunc _ ps x y => some (ps,x,y)
  | .seq a b => match bl0 a with
    | some r => some r
    | none => bl0 b
  | .block _ c => bl0 c
  | _ => none
def rgD (n : Nat) (o : Option Code) : LpD := match o with
  | some c => match bl0 c with
    | some (ps,x,y) => ⟨ps,x,y,n⟩
    | none => ⟨#[],.skip,.skip,0⟩
  | none => ⟨#[],.skip,.skip,0⟩
def pb0 (D : LpD) (Fd : List AV) (h : Bool) : Blk := .loop D (match h with | true => .done | false => .ready) (match h with | true => some .ret | false => none) [(1,some (.iptr [.iptr Fd])),(2,some (.ptr 1001 0)),(3,some (.ptr 1002 0))]
def pb1 (g : Gr) : Blk := .box [i64 g.kind,.lst 1 (g.bodies.map i64),.lst 1 (g.joints.map i64),i64 g.driver]
def pb2 (h : Bool) : Blk := .box [bl h]
def ahv (D : LpD) (Fd : List AV) (h : Bool) (g : Gr) : Hp := [(1000,some (pb0 D Fd h)),(1001,some (pb1 g)),(1002,some (pb2 h))]
theorem bdc {D : LpD} {Fd : List AV} {h : Bool} {g : Gr} {k : Nat} {z : Blk} (hz : lk (ahv D Fd h g) k = some z) : 1000 <= k := by
 unfold ahv at hz
 simp only [aab] at hz
 split at hz
 ·omega
 ·split at hz
  ·omega
  ·split at hz
   ·omega
   ·cases hz
theorem bal {D : LpD} {Fd : List AV} {s : AS} (hs : ∀ k z, lk (ahv D Fd false default) k = some z -> s.blk k = some z) :
  ∀ k ∈ (ahv D Fd false default ++ ajc (ahv D Fd false default)).map (·.1),k ∈ (ahv D Fd false default).map (·.1) /\ lk (ahv D Fd false default ++ ajc (ahv D Fd false default)) k = s.blk k := by
 intro k hk
 have hk' : k = 1000 \/ k = 1001 \/ k = 1002 := by
  simp [ahv,ajc] at hk
  omega
 rcases hk' with rfl | rfl | rfl
 ·exact ⟨by simp [ahv],(hs _ _ rfl).symm⟩
 ·exact ⟨by simp [ahv],(hs _ _ rfl).symm⟩
 ·exact ⟨by simp [ahv],(hs _ _ rfl).symm⟩
theorem a79 {l : Li} {known : List Bool} {i k : Nat} (h : cond (ahh l known i) (ahh l known k) false = false) : ae5 l known i k = false := by
 rw [aed] at h
 unfold ae5
 rw [h]; rfl
theorem bn8 {H R : Hp} {k : Nat} {z : Blk} (h : lk H k = some z) : lk (H ++ R) k = some z:=by rw [adf,if_pos (aa6 h)]; exact h
theorem fr1 {a b : Bool} (h : cond a b false = true) : a = true:=by cases a <;> simp_all
theorem fr2 {a b : Bool} (h : cond a b false = true) : b = true:=by cases a <;> simp_all
theorem a28 (D : LpD) (l : Li) (hl : l.ok) (hli : liE l = 0) (known : List Bool) (hk : known.length = l.bodies.length) (r : List AV)
  (hy : ∀ i k : Nat, i < k -> k < l.bodies.length -> ahh l known i = true -> ahh l known k = true ->
   bl1 prog 1000 [i64 i,i64 k] (ahv D (fdC l known (aaw l) r) false default) (bl (!ae5 l known i k)) (ahv D (fdC l known (aaw l) r) (ae5 l known i k) (cond (ae5 l known i k) (prG l known i k) default))) :
  Con prog 445 [.yl 1000,.iptr [.iptr (fdC l known (aaw l) r)]] (ahv D (fdC l known (aaw l) r) false default) (.tup []) (ahv D (fdC l known (aaw l) r) (aev l known).isSome ((aev l known).getD default)) := by
 have h8 := (abw hli).2.2.2.1
 refine gF func445 (fun k z h => bdc h) ?_
 refine gl ?_
 refine gL1 [0,1,10] [1000,1001,1002] (fun (i : Nat) => [(11,some (i64 i))]) (fun _ => []) (fun i => i <= l.bodies.length /\ ∀ j,j < i -> (aza l known j).isNone = true) (fun i => l.bodies.length - i) 0 ⟨zero_le _,fun j h => by omega⟩ ?_
 rintro i ⟨hi,hj⟩ K1 hK1
 refine gC (fun ht12 => ?_) (fun ht12 => ?_)
 ·have hin := abo ht12
  refine ga aau ?_
  refine gL1 [0,1,3,10,11] [] (fun (k : Nat) => [(4,some (i64 (i + 1 + k : Nat)))]) (fun _ => [(1000,some (pb0 D (fdC l known (aaw l) r) false)),(1001,some (pb1 default)),(1002,some (pb2 false))]) (fun k => i + 1 + k <= l.bodies.length /\ ∀ j,j < k -> (!ae5 l known i (i + 1 + j)) = true) (fun k => l.bodies.length - k) 0 ⟨by omega,fun j h => by omega⟩ ?_
  rintro k ⟨hkl,hkj⟩ K2 hK2
  refine gl ?_
  refine gC (fun ht23 => ?_) (fun ht23 => ?_)
  ·have hkn : i + 1 + k < l.bodies.length := abo ht23
   refine gc (a8r l hli known hk r i hin) ?_
   refine gcG (fun _ => (a8r l hli known hk r (i + 1 + k) hkn)) ?_
   refine gs (a1q rfl rfl rfl (by intro hb; have h0 : ae5 l known i (i + 1 + k) = false := a79 (by simpa using hb); simp only [h0,cond_false]; exact bal (by intro k z h; exact h)) (fun hb => bev (k := 1000) (.opt rfl (by rw [hb]; rfl)) (hy i (i + 1 + k) (by omega) hkn (fr1 hb) (fr2 hb)) (.cons (.opt rfl (by rw [hb]; rfl)) (.cons (.opt rfl (by rw [hb]; rfl)) .nil)) (by intro k z h; exact h) rfl rfl)) ?_
   refine gC (fun ht40 => ?_) (fun ht40 => ?_)
   ·have h2 : ae5 l known i (i + 1 + k) = true := by have h9 := fr2 ht40; rw [Bool.not_not] at h9; exact h9
    have hat : aza l known i = some (i + 1 + k):=by unfold aza; rw [ada (by omega) hkj (by rw [h2]; rfl),Option.map_some]; congr 1; omega
    have hg : aev l known = some (prG l known i (i + 1 + k)):=by unfold aev; rw [ada hin hj (by rw [hat]; rfl),Option.map_some,hat]
    refine gR ?_
    simp only [hg,h2,Option.isSome_some,Option.getD_some,cond_true]
    exact Fin.keep (fun k z h => bn8 h)
   ·have h2 : ae5 l known i (i + 1 + k) = false := by cases hc : cond (ahh l known i) (ahh l known ((i + 1 + k : Nat) : Int)) false with | false => exact a79 hc | true => rw [hc, Bool.not_not] at ht40; exact ht40
    refine ga aau ?_
    exact gK1 hK2 (k + 1) ⟨by omega,fun j h9 => by rcases lt_or_ge j k with g | g; exact hkj j g; (have : j = k:=by omega); subst this; rw [h2]; rfl⟩ (hw := Wk.of abu (.cons rfl (BlkSub.of (by rw [h2])) (.cons rfl (BlkSub.of (by rw [h2]; rfl)) (.cons rfl (BlkSub.of (by rw [h2])) .nil))))
  ·have hkn : ¬ i + 1 + k < l.bodies.length := fun h => by have h1 := a8j ht23; omega
   have hat : aza l known i = none:=by unfold aza; rw [show l.bodies.length - (i + 1) = k by omega,aci hkj]; rfl
   refine ga aau ?_
   exact gK1 hK1 (i + 1) ⟨hin,fun j h9 => by rcases lt_or_ge j i with g | g; exact hj j g; (have : j = i:=by omega); subst this; rw [hat]; rfl⟩
 ·have hin := aan hi ht12
  have hg : aev l known = none:=by unfold aev; rw [<- hin,aci hj]; rfl
  refine gR ?_
  simp only [hg,Option.isSome_none,Option.getD_none]
  exact Fin.keep (fun k z h => h)
end Go.Lw
namespace Go.Lw
variable {P : Program}
mutual
def AV.pm (σ : Nat -> Nat) : AV -> AV
  | .ms k sz off len => .ms (σ k) sz off len
  | .ptr k off => .ptr (σ k) off
  | .eptr k sz i off => .eptr (σ k) sz i off
  | .yl k => .yl (σ k)
  | .agg cs => .agg (AV.pms σ cs)
  | .tup cs => .tup (AV.pms σ cs)
  | .fn f cs => .fn f (AV.pms σ cs)
  | .opt b x => .opt b (AV.pm σ x)
  | .v x => .v x
  | .lst sz l => .lst sz l
  | .iptr l => .iptr l
  | .cl f cs ds => .cl f cs ds
def AV.pms (σ : Nat -> Nat) : List AV -> List AV
  | [] => []
  | x :: l => AV.pm σ x :: AV.pms σ l
end
theorem AV.pms_eq (σ : Nat -> Nat) : ∀ l, AV.pms σ l = l.map (AV.pm σ)
 | [] => rfl
 | x :: l => by simp only [AV.pms,map_cons,AV.pms_eq σ l]
theorem AV.pm_one (σ : Nat -> Nat) (x : AV) (h : x.one = true) : (x.pm σ).one = true := by
 cases x <;> simp only [AV.pm] <;> exact h
mutual
theorem AV.pm_pm {σ : Nat -> Nat} (hσ : ∀ k, σ (σ k) = k) : ∀ x : AV, (x.pm σ).pm σ = x
 | .ms k sz off len => by simp only [AV.pm,hσ]
 | .ptr k off => by simp only [AV.pm,hσ]
 | .eptr k sz i off => by simp only [AV.pm,hσ]
 | .yl k => by simp only [AV.pm,hσ]
 | .agg cs => by simp only [AV.pm]; rw [AV.pms_pms hσ cs]
 | .tup cs => by simp only [AV.pm]; rw [AV.pms_pms hσ cs]
 | .fn f cs => by simp only [AV.pm]; rw [AV.pms_pms hσ cs]
 | .opt b x => by simp only [AV.pm]; rw [AV.pm_pm hσ x]
 | .v x => by simp only [AV.pm]
 | .lst sz l => by simp only [AV.pm]
 | .iptr l => by simp only [AV.pm]
 | .cl f cs ds => by simp only [AV.pm]
theorem AV.pms_pms {σ : Nat -> Nat} (hσ : ∀ k, σ (σ k) = k) : ∀ l : List AV, AV.pms σ (AV.pms σ l) = l
 | [] => by simp only [AV.pms]
 | x :: l => by simp only [AV.pms]; rw [AV.pm_pm hσ x,AV.pms_pms hσ l]
end
theorem azg {g : Nat -> Array Value -> Prop} {S : Nat -> Nat -> Prop} {σ : Nat -> Nat} (hσ : ∀ k, σ (σ k) = k) {m : Nat -> Option Nat} {v : Value} {x : AV} (h : Rep g S m v x) : Rep g S (fun k => m (σ k)) v (x.pm σ) := by
 induction h with
 | v x => exact .v x
 | lst0 a cap sz' => exact .lst0 a cap sz'
 | lst u hb hc hl hs ho hu hr _ => exact .lst u hb hc hl hs ho hu hr
 | iptr u hb ho hu hr _ => exact .iptr u hb ho hu hr
 | cl a b c d _ _ => exact .cl a b c d
 | ptr hm => exact .ptr (by simp only [hσ]; exact hm)
 | eptr hm => exact .eptr (by simp only [hσ]; exact hm)
 | yl hm => exact .yl (by simp only [hσ]; exact hm)
 | ms0 a k sz off => exact .ms0 _ _ _ _
 | ms hm hc hS => exact .ms (by simp only [hσ]; exact hm) hc hS
 | opt h h' ih => exact .opt ih h'
 | agg hn h1 hr ih =>
  simp only [AV.pm,AV.pms_eq]
  refine .agg (by simpa using hn) ?_ ?_
  ·intro j c hc
   simp only [getElem?_map,map_eq_some_iff] at hc
   obtain ⟨y,hy,rfl⟩ := hc
   exact AV.pm_one _ _ (h1 j y hy)
  ·intro j u c hu hc
   simp only [getElem?_map,map_eq_some_iff] at hc
   obtain ⟨y,hy,rfl⟩ := hc
   exact ih j u y hu hy
 | tup hn hr ih =>
  simp only [AV.pm,AV.pms_eq]
  refine .tup (by simpa using hn) ?_
  intro j u c hu hc
  simp only [getElem?_map,map_eq_some_iff] at hc
  obtain ⟨y,hy,rfl⟩ := hc
  exact ih j u y hu hy
 | fn hn hr ih =>
  simp only [AV.pm,AV.pms_eq]
  refine .fn (by simpa using hn) ?_
  intro j u c hu hc
  simp only [getElem?_map,map_eq_some_iff] at hc
  obtain ⟨y,hy,rfl⟩ := hc
  exact ih j u y hu hy
theorem bkl {g : Nat -> Array Value -> Prop} {S : Nat -> Nat -> Prop} {σ : Nat -> Nat} (hσ : ∀ k, σ (σ k) = k) {m : Nat -> Option Nat} {w : World} {o : Option Nat} {x : Blk} (h : BlkRep g S m w o x) :
  BlkRep g S (fun k => m (σ k)) w o (x.map (AV.pm σ)) := by
 cases x with
 | row sz es => exact h.mono (fun _ _ h => h) (fun _ _ h => h) (fun _ _ hk => hk.elim) rfl (fun _ _ => rfl)
 | vec vs => exact h.mono (fun _ _ h => h) (fun _ _ h => h) (fun _ _ hk => hk.elim) rfl (fun _ _ => rfl)
 | loop => exact h.mapLoop _ (fun _ _ _ _ h => azg hσ h)
 | box cs =>
  cases h with
  | box hw hn h1 hrr =>
   refine .box hw (by simpa using hn) ?_ ?_
   ·intro j x hx
    simp only [getElem?_map,map_eq_some_iff] at hx
    obtain ⟨y,hy,rfl⟩ := hx
    exact AV.pm_one _ _ (h1 j y hy)
   ·intro j u x hu hx
    simp only [getElem?_map,map_eq_some_iff] at hx
    obtain ⟨y,hy,rfl⟩ := hx
    exact azg hσ (hrr j u y hu hy)
theorem beo {σ : Nat -> Nat} (hσ : ∀ k, σ (σ k) = k) : ∀ sl : abr, akk (AV.pm σ) (akk (AV.pm σ) sl) = sl
 | [] => rfl
 | (t,none) :: l => by simp only [akk,beo hσ l]
 | (t,some x) :: l => by simp only [akk,beo hσ l,AV.pm_pm hσ x]
theorem Blk.pm_pm {σ : Nat -> Nat} (hσ : ∀ k, σ (σ k) = k) (x : Blk) : (x.map (AV.pm σ)).map (AV.pm σ) = x := by
 cases x with
 | row sz es => rfl
 | vec vs => rfl
 | loop d st pe sl => simp only [Blk.map,beo hσ]
 | box cs =>
  simp only [Blk.map]
  rw [<- AV.pms_eq,<- AV.pms_eq,AV.pms_pms hσ]
def pmH (σ : Nat -> Nat) : Hp -> Hp
  | [] => []
  | (k,x) :: l => (σ k,match x with | some b => some (b.map (AV.pm σ)) | none => none) :: pmH σ l
theorem aj9 {σ : Nat -> Nat} (hσ : ∀ k, σ (σ k) = k) : ∀ (H : Hp) (k : Nat), lk (pmH σ H) k = (lk H (σ k)).map (Blk.map (AV.pm σ))
 | [],k => rfl
 | (k', x) :: l, k => by
  simp only [pmH,aab,aj9 hσ l k]
  by_cases h : k = σ k'
  ·rw [if_pos h, if_pos (by rw [h, hσ])]
   cases x <;> rfl
  ·rw [if_neg h,if_neg (fun e => h (by rw [<- e,hσ]))]
theorem a4f {σ : Nat -> Nat} (hσ : ∀ k, σ (σ k) = k) (H : Hp) (m : Nat -> Option Nat) : Own (pmH σ H) (fun k => m (σ k)) = Own H m := by
 funext b
 apply propext
 constructor
 ·rintro ⟨k, z, hz, hb⟩
  rw [aj9 hσ,map_eq_some_iff] at hz
  obtain ⟨y,hy,rfl⟩ := hz
  exact ⟨σ k,y,hy,hb⟩
 ·rintro ⟨k, y, hy, hb⟩
  exact ⟨σ k,y.map (AV.pm σ),by rw [aj9 hσ,hσ,hy]; rfl,by simp only [hσ]; exact hb⟩
theorem a8k {σ : Nat -> Nat} (hσ : ∀ k, σ (σ k) = k) {ext : Nat -> Prop} {H : Hp} {m : Nat -> Option Nat} {w : World} (h : HeapRel ext H m w) : HeapRel ext (pmH σ H) (fun k => m (σ k)) w := by
 have e : Im ext (pmH σ H) (fun k => m (σ k)) w = Im ext H m w:=by funext b cs; simp only [Im,a4f hσ]
 refine ⟨?_,?_,?_⟩
 ·intro k z hz
  rw [aj9 hσ,map_eq_some_iff] at hz
  obtain ⟨y,hy,rfl⟩ := hz
  rw [e]
  exact bkl hσ (h.blk _ y hy)
 ·intro k k' z z' b hz hz' hb hb'
  rw [aj9 hσ,map_eq_some_iff] at hz hz'
  obtain ⟨y,hy,_⟩ := hz
  obtain ⟨y',hy',_⟩ := hz'
  have := h.inj _ _ y y' b hy hy' hb hb'
  rw [<- hσ k,this,hσ]
 ·intro k z b hz hb
  rw [aj9 hσ,map_eq_some_iff] at hz
  obtain ⟨y,hy,_⟩ := hz
  exact h.sep _ y b hy hb
theorem Con.pm {σ : Nat -> Nat} (hσ : ∀ k, σ (σ k) = k) {f : FuncId} {args : List AV} {H H' : Hp} {r : AV} (h : Con P f args H r H') : Con P f (args.map (AV.pm σ)) (pmH σ H) (r.pm σ) (pmH σ H') := by
 refine ⟨h.ok,?_⟩
 intro ext m w vs hext hheap hvs hrep
 have hlk : ∀ k, lk (pmH σ (pmH σ H)) k = lk H k := by
  intro k
  rw [aj9 hσ,aj9 hσ,hσ]
  cases lk H k with
  | none => rfl
  | some y => simp only [Option.map_some,Blk.pm_pm hσ]
 have hh := HeapRel.congr hlk (a8k hσ hheap)
 have em : (fun k => (fun k => m (σ k)) (σ k)) = m:=by funext k; simp only [hσ]
 have eo : Own (pmH σ H) m = Own H (fun k => m (σ k)) := by
  have := a4f hσ H (fun k => m (σ k))
  rw [em] at this; exact this
 have ei : Im ext (pmH σ H) m w = Im ext H (fun k => m (σ k)) w:=by funext b cs; simp only [Im,eo]
 refine Calls.mono (h.ret ext (fun k => m (σ k)) w vs hext hh (by simpa using hvs) (fun j v x hv hx => ?_)) ?_
 ·have h1 := hrep j v (x.pm σ) hv (by simp [hx])
  have h2 := azg hσ h1
  rw [AV.pm_pm hσ,ei] at h2
  exact h2
 ·rintro e w' ⟨v, m', rfl, hf, hh', hn, hk, hrr⟩
  refine ⟨v,fun k => m' (σ k),rfl,eo ▸ hf,a8k hσ hh',?_,?_,?_⟩
  ·intro k x b hx hb
   rw [aj9 hσ,map_eq_some_iff] at hx
   obtain ⟨y,hy,_⟩ := hx
   rw [eo]
   exact hn _ y b hy hb
  ·intro k x y hx hy
   rw [aj9 hσ,map_eq_some_iff] at hx hy
   obtain ⟨x',hx',_⟩ := hx
   obtain ⟨y',hy',_⟩ := hy
   have := hk _ x' y' hx' hy'
   simpa only [hσ] using this
  ·have e2 : Im ext (pmH σ H') (fun k => m' (σ k)) w' = Im ext H' m' w' := by funext b cs; simp only [Im, a4f hσ]
   rw [e2]
   exact azg hσ hrr
end Go.Lw
namespace Go.Lw
open Go.Proofs
theorem gZ {P : Program} {N : Nat} {Q : Exit -> AS -> Prop} {c : Code} {s : AS} (h : Gd P N Q (.code c [] s)) : AWP P N c Q s := h
theorem ayu {P : Program} {N : Nat} {Q : Exit -> AS -> Prop} {c : Code} {s s' : AS} (hw : Wk s s') (h : a3y P N c Q s') : a3y P N c Q s := by
 intro C m a w n hro hN hr
 obtain ⟨m',hr'⟩ := hw C m a w hr
 exact h C m' a w n hro hN hr'
def swp (k : Nat) : Nat := bif Nat.beq k 1000 then 900 else bif Nat.beq k 900 then 1000 else bif Nat.beq k 1001 then 2 else bif Nat.beq k 2 then 1001 else bif Nat.beq k 1002 then 3 else bif Nat.beq k 3 then 1002 else k
theorem nb {a b : Nat} (h : ¬ a = b) : Nat.beq a b = false := by
 cases h1 : Nat.beq a b
 ·rfl
 ·exact absurd (eq_of_beq_eq_true h1) h
theorem bew (k : Nat) : swp (swp k) = k := by
 by_cases h1 : k = 1000
 ·subst h1; rfl
 by_cases h2 : k = 900
 ·subst h2; rfl
 by_cases h3 : k = 1001
 ·subst h3; rfl
 by_cases h4 : k = 2
 ·subst h4; rfl
 by_cases h5 : k = 1002
 ·subst h5; rfl
 by_cases h6 : k = 3
 ·subst h6; rfl
 have e : swp k = k:=by simp only [swp,nb h1,nb h2,nb h3,nb h4,nb h5,nb h6,cond_false]
 rw [e,e]
theorem a96 (l : Li) (hl : l.ok) (hli : liE l = 0) (known : List Bool) (hk : known.length = l.bodies.length) (r : List AV) :
  FnC prog 402 [.iptr (fdC l known (aaw l) r)] (.tup [((aev l known).getD default).av,bl (aev l known).isSome]) := by
 refine a53 (rs := Tryz.f402.results.toList) func402 rfl rfl (by simp) rfl (fun k z h => by cases h) ?_
 refine as8 (gZ (go ?_))
 refine ayu (s' := ⟨[(1,some (.iptr [.iptr (fdC l known (aaw l) r)])),(2,some (.ptr 2 0)),(3,some (.ptr 3 0))],[(2,some (pb1 default)),(3,some (pb2 false))]⟩) ((Wk.freezeB (k := 1) rfl rfl).trans (Wk.of (.cons rfl (.refl _) (.cons rfl (.refl _) (.cons rfl (.refl _) .nil))) (.cons rfl (BlkSub.boxL (.cons (.refl _) (.cons (.nil _ _ _) (.cons (.nil _ _ _) (.cons (.refl _) .nil)))) rfl) (.cons rfl (.refl _) .nil)))) ?_
 refine a6h ?_
 refine as8 (gZ (go ?_))
 refine gc (a5g (fdC l known (aaw l) r)) ?_
 refine a3m ?_
 have hy : ∀ i k : Nat, i < k -> k < l.bodies.length -> ahh l known i = true -> ahh l known k = true ->
   bl1 prog 1000 [i64 i,i64 k] (ahv (rgD Tryz.f402.ntmps Tryz.f402.body) (fdC l known (aaw l) r) false default) (bl (!ae5 l known i k)) (ahv (rgD Tryz.f402.ntmps Tryz.f402.body) (fdC l known (aaw l) r) (ae5 l known i k) (cond (ae5 l known i k) (prG l known i k) default)) := by
  intro i k hik hkn hfi hfk
  refine bhc (k := 1000) (fun k z h => bdc h) rfl rfl (by intro p hp; have h9 : p ∈ [11,12] := hp; have h8 : p = 11 \/ p = 12 := (by simpa using h9); show p < 42; rcases h8 with h7 | h7 <;> (rw [h7]; decide)) ?_
  refine gZ (go ?_)
  refine ⟨rfl,_,_,rfl,?_⟩
  have hJ : gJ l 0 i (fun o => decide (o = (k : Int))) = abg l 0 i (aeg l.bodies.length k) := bhb hli (fun o h0 h1 => (axk h0 (by omega) (by omega)).symm)
  refine gZ (go ?_)
  refine gc (az9 l hl hli known hk r 0 i) ?_
  refine gc (az9 l hl hli known hk r 0 k) ?_
  refine gD ?_ (5,0)
  refine gW (Wk.freezeB (k := 5) rfl rfl) ?_
  refine gc (r := i64 (abg l 0 i (aeg l.bodies.length k))) (by rw [<- hJ]; exact Con.subA (.cons (.refl _) (.cons (.refl _) (.cons (.refl _) (.cons (bdp rfl) .nil)))) (awy l hl hli _ 0 i 435 [] [.iptr [i64 k]] (fun o => decide (o = (k : Int))) (fun o h0 h1 => a4t o k))) ?_
  refine gC (fun ht => ?_) (fun ht => ?_)
  ·have h2 : ae5 l known i k = true := by unfold ae5; rw [hfi, hfk]; exact (at8.symm.trans ht)
   rw [h2]
   exact ⟨_,_,rfl,Fin.keep (by intro q z h; simp only [ahv,aab] at h; split at h; (subst_vars; exact h); split at h; (subst_vars; exact h); split at h; (subst_vars; exact h); cases h)⟩
  ·have h2 : ae5 l known i k = false := by unfold ae5; rw [hfi, hfk]; exact (at8.symm.trans ht)
   rw [h2]
   exact ⟨_,_,rfl,Fin.keep (by intro q z h; simp only [ahv,aab] at h; split at h; (subst_vars; exact h); split at h; (subst_vars; exact h); split at h; (subst_vars; exact h); cases h)⟩
 have hcon := Con.pm bew (a28 _ l hl hli known hk r hy)
 cases hg : aev l known with
 | none =>
  rw [hg] at hcon
  refine arf (k := 900) (sl0 := [(1,some (.iptr [.iptr (fdC l known (aaw l) r)])),(2,some (.ptr 2 0)),(3,some (.ptr 3 0))]) (.tmp rfl) (by intro t x h; simp only [aab] at h; split at h; (subst_vars; exact h); split at h; (subst_vars; exact h); split at h; (subst_vars; exact h); cases h) rfl rfl hcon (fun k' z h => h) rfl rfl rfl rfl (by intro h; cases h) (.inl ⟨rfl,?_⟩)
  refine as8 (gZ (go ?_))
  refine AWP.out (gZ (go ?_))
  refine gR ?_
  exact Fin.sub Fin.pure (Sub.tup (.cons amt (.cons (.refl _) .nil)))
 | some g =>
  rw [hg] at hcon
  refine arf (k := 900) (sl0 := [(1,some (.iptr [.iptr (fdC l known (aaw l) r)])),(2,some (.ptr 2 0)),(3,some (.ptr 3 0))]) (.tmp rfl) (by intro t x h; simp only [aab] at h; split at h; (subst_vars; exact h); split at h; (subst_vars; exact h); split at h; (subst_vars; exact h); cases h) rfl rfl hcon (fun k' z h => h) rfl rfl rfl rfl (by intro h; cases h) (.inr ⟨rfl,?_⟩)
  exact (gE2 (P := prog) (N := Tryz.f402.ntmps) (e := .ret) rfl)
end Go.Lw
namespace Go.Lw
open Go.Proofs
theorem axc {α : Type} {o : Option α} (h : o.isSome = true) : ∃ x,o = some x:=by cases o <;> simp_all
theorem ayw {α : Type} {o : Option α} (h : o.isSome = false) : o = none:=by cases o <;> simp_all
theorem a99 (l : Li) (hl : l.ok) (hli : liE l = 0) (known : List Bool) (hk : known.length = l.bodies.length) (r : List AV) :
  FnC prog 348 [.iptr (fdC l known (aaw l) r)] (.tup [((adm l known).getD default).av,bl (adm l known).isSome]) := by
 refine gF0 func348 ?_
 refine gc (a2k l hl hli known (aaw l) hk r) ?_
 refine gC (fun ht13 => ?_) (fun ht13 => ?_)
 ·obtain ⟨g, hg⟩ := axc ht13
  refine gE2 ?_
  unfold adm; rw [hg]; rfl
 ·have hg := ayw ht13
  refine gc (a96 l hl hli known hk r) ?_
  refine gC (fun ht20 => ?_) (fun ht20 => ?_)
  ·obtain ⟨g, hg2⟩ := axc ht20
   refine gE2 ?_
   unfold adm; rw [hg,hg2]; rfl
  ·have hg2 := ayw ht20
   refine gc (a1y l hl hli known hk r) ?_
   refine gE2 ?_
   unfold adm; rw [hg,hg2]; rfl
end Go.Lw
namespace Go.Lw
open Go.Proofs
theorem akm (d : Nat) (hd : Nat.blt d 1000 = true) (l : Li) (hl : l.bodies.length <= 1000) (b : Nat) (hb : b < l.bodies.length) :
  Con prog 216 [l.av,i64 b] [] (.ms d 1 0 l.bodies.length) [(d,some (.row 1 ((aeg l.bodies.length b).map bl)))] := by
 refine gF func216 (fun k z h => by cases h) ?_
 refine gl ?_
 refine gs (af5 (.tmp rfl) T162 rfl T4 rfl rfl (by omega) (by dsimp only; omega) rfl) ?_
 refine gs (af3 (.tmp rfl) (.tmp rfl) T162 rfl T4 rfl (by omega) (by omega) rfl) ?_
 refine gs (aba (.tmp rfl) rfl (by rw [List.getElem?_replicate,if_pos (by simp; omega)]) rfl (.const _) rfl rfl T4 rfl rfl) ?_ (3,0)
 refine gW (Wk.of (sl := [(5,some (.ms 9 1 0 l.bodies.length))]) (hp := [(9,some (.row 1 ((aeg l.bodies.length b).map bl)))]) (.cons rfl (Sub.of (by rw [toNat_natCast])) .nil) (.cons rfl (BlkSub.of (by unfold aeg; simp only [map_set,map_replicate,Nat.zero_add,toNat_natCast]; rfl)) .nil)) ?_ (3,0)
 refine gW (Wk.rekey (k := 9) (d := 900) rfl rfl) ?_
 refine gR ?_
 exact Fin.own1 rfl hd rfl
theorem a11 (l : Li) (hl : l.bodies.length <= 1000) (b : Nat) (hb : b < l.bodies.length) : FnC prog 216 [l.av, i64 b] (.lst 1 ((aeg l.bodies.length b).map bl)) := by
 have h := Con.freeze (by rw [length_map,ad5]; omega) (akm 0 rfl l hl b hb)
 rw [drop_zero,take_of_length_le (by rw [length_map,ad5]; exact le_refl _)] at h
 exact h
theorem au4 (l : Li) (hl : l.ok) (b : Int) : FnC prog 383 [l.av, i64 b] (bl (amz l b)) := by
 have hld := hl.ld
 refine gF0 func383 ?_
 refine gl ?_
 refine gL1 [1,8,9] [] (fun (i : Nat) => [(10,some (i64 i))]) (fun _ => []) (fun i => i <= l.drivers.length /\ (l.drivers.take i).any (fun d => decide (d.body = b)) = false) (fun i => l.drivers.length - i) 0 ⟨zero_le _,rfl⟩ ?_
 rintro i ⟨hi,hj⟩ K1 hK1
 refine gC (fun ht11 => ?_) (fun ht11 => ?_)
 ·have hin := abo ht11
  obtain ⟨d,hd⟩ := ab9 hin
  refine gi (aaf hd) ?_
  refine gC (fun ht17 => ?_) (fun ht17 => ?_)
  ·have h1 : d.body = b := ae9 ht17
   refine gE1 ?_
   unfold amz; rw [List.any_eq_true.2 ⟨d,mem_of_getElem? hd,decide_eq_true h1⟩]; rfl
  ·have h1 : d.body ≠ b := afy ht17
   refine ga aau ?_
   exact gK1 hK1 (i + 1) ⟨hin,aew hd hj (decide_eq_false h1)⟩
 ·have hin := aan hi ht11
  subst hin
  rw [take_length] at hj
  refine gE1 ?_
  unfold amz; rw [hj]; rfl
theorem apt (l : Li) (hl : l.ok) (hli : liE l = 0) (kind body : Int) (oth : List Bool) (ho : oth.length = l.bodies.length) : FnC prog 316 [l.av, i64 kind, i64 body, .lst 1 (oth.map bl)] (i64 (abg l kind body oth)) := by
 have hlj := hl.lj
 refine gF0 func316 ?_
 refine gl ?_
 refine gL1 [1,2,3,12,13] [] (fun (i : Nat) => [(14,some (i64 i))]) (fun _ => []) (fun i => i <= l.joints.length /\ ∀ j,j < i -> (!a9o kind body oth (l.joints.getD j default)) = true) (fun i => l.joints.length - i) 0 ⟨zero_le _,fun j h => by omega⟩ ?_
 rintro i ⟨hi,hj⟩ K1 hK1
 refine gC (fun ht15 => ?_) (fun ht15 => ?_)
 ·have hin := abo ht15
  obtain ⟨j,hjt⟩ := ab9 hin
  have hjd : l.joints.getD i default = j := aag hjt
  obtain ⟨i1,i2,_⟩ := aem hli hjt
  have b1 := ahn i1
  have b2 := ahn i2
  obtain ⟨va,hva⟩ : ∃ v,oth[j.a.toNat]? = some v := ab9 (by omega)
  obtain ⟨vb,hvb⟩ : ∃ v,oth[j.b.toNat]? = some v := ab9 (by omega)
  have ea : kn oth j.a = va := aag hva
  have eb : kn oth j.b = vb := aag hvb
  refine gi (aaf hjt) ?_
  refine giG (fun _ => (adt (n := j.b.toNat) (by omega) hvb)) ?_
  refine giG (fun _ => (adt (n := j.a.toNat) (by omega) hva)) ?_
  refine gC (fun ht48 => ?_) (fun ht48 => ?_)
  ·have h2 : a9o kind body oth j = true := by rw [<- awh (va := va) (vb := vb) ea eb]; exact ht48
   refine gE1 ?_
   unfold abg; rw [ada hin hj (by rw [hjd,h2]; rfl)]; rfl
  ·have h2 : a9o kind body oth j = false := by rw [<- awh (va := va) (vb := vb) ea eb]; exact ht48
   refine ga aau ?_
   exact gK1 hK1 (i + 1) ⟨hin,fun k h9 => by rcases lt_or_ge k i with g | g; exact hj k g; (have : k = i:=by omega); subst this; rw [hjd,h2]; rfl⟩
 ·have hin := aan hi ht15
  subst hin
  refine gE1 ?_
  unfold abg; rw [aci hj]; rfl
theorem a2h (l : Li) (hl : l.ok) (known : List Bool) (b : Nat) (hb : b < known.length) : FnC prog 317 [l.av, .lst 1 (known.map bl), i64 b] (bl (ahh l known b)) := by
 obtain ⟨v,hv⟩ := ab9 hb
 have ev : kn known (b : Int) = v := aag (by rw [toNat_natCast]; exact hv)
 refine gF0 func317 ?_
 refine gi (aaf hv) ?_
 refine gcG (fun _ => (au4 l hl b)) ?_
 refine gE1 ?_
 unfold ahh; rw [ev]; exact congrArg bl (aed _ _)
end Go.Lw
