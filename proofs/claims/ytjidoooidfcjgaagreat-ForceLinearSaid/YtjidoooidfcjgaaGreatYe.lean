/- ForcePowers: for any assembly, velocities and loads the law returns true and leaves its arguments as they were; ForceLinear: for any assembly, velocities and two lists of loads the law returns true and leaves its arguments as they were. No other condition. Part 5 of 7: what the later parts need -/
import Derived.Test.YtjidoooidfcjgaaGreatYd
import Derived.Test.YtjidoooidfcjgaaGreatRows
import Derived.WalkKit
import Derived.LaidEql
import Derived.Stop.Asserts
import Derived.RowKitTokens
import Derived.Handy
set_option linter.unusedVariables false
open List (mem_of_getElem? mem_cons_of_mem map_cons mem_cons length_cons mem_cons_self length_append length_nil getD_eq_getElem?_getD all_eq_true getElem?_map append_assoc getElem?_eq_getElem nil_append map_append length_take length_map drop_zero take_length mem_of_mem_take not_mem_nil)
open Nat (le_refl lt_or_ge le_trans zero_le)
open Option (map_eq_some_iff)
open Bool (and_eq_true)
open Go.Proofs.Tryz
namespace Go.Lw
open Go.Proofs
theorem ag5 (ts : List (List Rat)) (m r : Nat) (ht : a0w ts m r) (hm : m <= 5) (R : List AV) (hR : ∀ j, j < m -> R[j]? = some (nA (ts.getD j []))) (k : Nat) : ∀ (j : Nat) (a b : List Rat) (e f : Nat), j <= m -> j <= k -> Nl j a -> Nl j b -> Cb e a -> Cb f b -> e + f + eB r j < 4398046511104 ->
  FnC prog 294 [.agg [.lst 1 R],nA a,nA b] (nA (rT ts k a b)) := by
 induction k using Nat.strongRecOn
 rename_i k ih
 intro j a b e f hj hjk ha hb ca cb hs
 obtain ⟨nx,dx⟩ := am3 ha (by omega)
 obtain ⟨ny,dy⟩ := am3 hb (by omega)
 have cx : Cb e (aao 5 a) := ca.sub (fun q hq => ag1 5 hq)
 have cy : Cb f (aao 5 b) := cb.sub (fun q hq => ag1 5 hq)
 have k1 := aea a (by omega) ha
 have k2 := aea b (by omega) hb
 rw [<- ah7 ha (by omega)] at k1
 rw [<- ah7 hb (by omega)] at k2
 obtain ⟨x,hx⟩ : ∃ x,x = aao 5 a := ⟨_,rfl⟩
 obtain ⟨y,hy⟩ : ∃ y,y = aao 5 b := ⟨_,rfl⟩
 rw [<- hx] at k1 nx dx cx
 rw [<- hy] at k2 ny dy cy
 have hlx := nx.len5 (by omega)
 have hly := ny.len5 (by omega)
 obtain ⟨n,hn⟩ : ∃ n,n = max x.length y.length := ⟨_,rfl⟩
 refine gF0 func294 ?_
 refine gc k1 ?_
 refine gc k2 ?_
 refine gl ?_
 refine gl ?_
 refine gs (a0k (.tmp rfl) (.tmp rfl) rfl) ?_ (3,0)
 refine gW (Wk.of (sl := [(1,some (nA x)),(2,some (nA y)),(3,some (.ptr 3 0)),(7,some (i64 n))]) (hp := [(3,some (.box [.lst 1 R]))]) (.k (.k (.k (.cons rfl (Sub.int (by omega)) .nil)))) (.cons rfl (.refl _) .nil)) ?_
 refine gl ?_
 refine glG ?_
 refine gC (fun ht32 => ?_) (fun ht32 => ?_)
 ·have h0 : x.length = 0 \/ y.length = 0 := by have := avt ht32; omega
  refine gR ?_
  exact ad3 (by rw [a19 (by rw [<- hx,<- hy]; exact h0)]; exact Sub.nil _ _ _)
 ·have h0 : ¬ (x.length = 0 \/ y.length = 0) := by have := arv ht32; omega
  refine gC (fun ht34 => ?_) (fun ht34 => ?_)
  ·have h1 : max x.length y.length = 1 := by have := ht34; simp only [aab, beq_iff_eq] at this; omega
   have e1 := ba3 (ts := ts) (k := k) (a := a) (b := b) (by rw [<- hx,<- hy]; exact h0) (by rw [<- hx,<- hy]; exact h1)
   rw [<- hx,<- hy] at e1
   clear hx hy
   have lx1 : x.length = 1:=by omega
   have ly1 : y.length = 1:=by omega
   clear hn
   obtain ⟨p,rfl⟩ : ∃ p,x = [p] := List.length_eq_one_iff.1 lx1
   obtain ⟨q,rfl⟩ : ∃ q,y = [q] := List.length_eq_one_iff.1 ly1
   refine gi rfl ?_
   refine gi rfl ?_
   refine gc (a5r (rt p) (rt q) (cx.qs (by omega) (by simp : p ∈ [p])).ok (cy.qs (by omega) (by simp : q ∈ [q])).ok) ?_
   refine gD ?_
   refine gE1 ?_
   rw [e1,aho,aho]; rfl
  ·have h1 : n ≠ 1 := by have := ht34; simp only [aab, beq_eq_false_iff_ne, ne_eq] at this; omega
   obtain ⟨i,hij,hmax⟩ := (baa nx ny h0).resolve_left (by omega)
   obtain ⟨k',rfl⟩ : ∃ k',k = k' + 1 := ⟨k - 1,by omega⟩
   have hp2 := Nat.two_pow_pos i
   have hpi : 2 ^ i <= 32 := aa7 (b := 5) (by omega)
   have hps : 2 ^ (i + 1) = 2 * 2 ^ i:=by rw [Nat.pow_succ]; omega
   have hnn : n = 2 ^ (i + 1):=by omega
   have hes : eB r (i + 1) <= eB r j := bai r hij
   have hee : eB r (i + 1) = 2 * eB r i + r + 2 := rfl
   have lx : (aat x (2 ^ (i + 1))).length = 2 ^ (i + 1) := aba (by omega)
   have ly : (aat y (2 ^ (i + 1))).length = 2 ^ (i + 1) := aba (by omega)
   obtain ⟨X,hX⟩ : ∃ X,X = aat x (2 ^ (i + 1)) := ⟨_,rfl⟩
   obtain ⟨Y,hY⟩ : ∃ Y,Y = aat y (2 ^ (i + 1)) := ⟨_,rfl⟩
   have cX : Cb e X:=by rw [hX]; exact cx.wide
   have cY : Cb f Y:=by rw [hY]; exact cy.wide
   rw [<- hX] at lx
   rw [<- hY] at ly
   have n1 : Nl i (X.take (2 ^ i)) := .inr ⟨i,le_refl _,ac2 lx⟩
   have n2 : Nl i (X.drop (2 ^ i)) := .inr ⟨i,le_refl _,ade lx⟩
   have n3 : Nl i (Y.take (2 ^ i)) := .inr ⟨i,le_refl _,ac2 ly⟩
   have n4 : Nl i (Y.drop (2 ^ i)) := .inr ⟨i,le_refl _,ade ly⟩
   have nd := ht.1 i (by omega)
   have cd := ht.2.cb i
   have s1 := ae4 hm ht (k := k') (show i <= m by omega) (by omega) n1 n3 cX.take cY.take
   have s2 := ae4 hm ht (k := k') (show i <= m by omega) (by omega) n2 n4 cX.drop cY.drop
   have s3 := ae4 hm ht (k := k') (show i <= m by omega) (by omega) s2.1 nd s2.2.2 cd
   have s4 := ae4 hm ht (k := k') (show i <= m by omega) (by omega) n1 n4 cX.take cY.drop
   have s5 := ae4 hm ht (k := k') (show i <= m by omega) (by omega) n2 n3 cX.drop cY.take
   have hrt := a6i (ts := ts) (k := k') (a := a) (b := b) rfl (by rw [<- hx,<- hy]; exact h0) (by rw [<- hx,<- hy]; exact hmax)
   rw [<- hx,<- hy,<- hX,<- hY] at hrt
   have w1 := afj x n (by omega) (by omega)
   have w2 := afj y n (by omega) (by omega)
   rw [hnn,<- hX] at w1
   rw [hnn,<- hY] at w2
   rw [<- hnn] at w1 w2
   have pw := afq n (by omega)
   rw [show pwk n = i + 1 by rw [hnn]; exact (ar6 (by omega)).1,show pwb n = true by rw [hnn]; exact (ar6 (by omega)).2] at pw
   refine gc w1 ?_
   refine gc w2 ?_
   refine gc pw ?_
   refine gs (adh (.tmp rfl) (.const _) (by omega) (show _ = ((2 ^ i : Nat) : Int) by rw [ab5 (by omega),hnn,abx]) rfl) ?_
   refine gs (aan (.tmp rfl) (.none _) (.some _ (.tmp rfl) (by omega)) T38 rfl T82 rfl (by omega) (by simp only [length_map]; omega) rfl) ?_
   refine gs (adh (.tmp rfl) (.const _) (by omega) (show _ = ((2 ^ i : Nat) : Int) by rw [ab5 (by omega),hnn,abx]) rfl) ?_
   refine gs (aan (.tmp rfl) (.some _ (.tmp rfl) (by omega)) (.none _) T38 rfl T82 rfl (by simp only [length_map]; omega) (by omega) rfl) ?_
   refine gs (adh (.tmp rfl) (.const _) (by omega) (show _ = ((2 ^ i : Nat) : Int) by rw [ab5 (by omega),hnn,abx]) rfl) ?_
   refine gs (aan (.tmp rfl) (.none _) (.some _ (.tmp rfl) (by omega)) T38 rfl T82 rfl (by omega) (by simp only [length_map]; omega) rfl) ?_
   refine gs (adh (.tmp rfl) (.const _) (by omega) (show _ = ((2 ^ i : Nat) : Int) by rw [ab5 (by omega),hnn,abx]) rfl) ?_
   refine gs (aan (.tmp rfl) (.some _ (.tmp rfl) (by omega)) (.none _) T38 rfl T82 rfl (by simp only [length_map]; omega) (by omega) rfl) ?_
   refine gD ?_ (10,0)
   refine gW (Wk.of (sl := [(3,some (.ptr 3 0)),(7,some (i64 n)),(8,some (i64 ((i + 1 : Nat) : Int))),(10,some (nA (X.take (2 ^ i)))),(11,some (nA (X.drop (2 ^ i)))),(12,some (nA (Y.take (2 ^ i)))),(13,some (nA (Y.drop (2 ^ i))))]) (hp := [(3,some (.box [.lst 1 R]))]) (.k (.k (.k (.cons rfl (Sub.of (aib X (2 ^ i))) (.cons rfl (Sub.of (af9 X (2 ^ i))) (.cons rfl (Sub.of (aib Y (2 ^ i))) (.cons rfl (Sub.of (af9 Y (2 ^ i))) .nil))))))) (.cons rfl (.refl _) .nil)) ?_
   refine gc (ih k' (by omega) i _ _ e f (by omega) (by omega) n1 n3 cX.take cY.take (by omega)) ?_
   refine gc (ih k' (by omega) i _ _ e f (by omega) (by omega) n2 n4 cX.drop cY.drop (by omega)) ?_
   refine ga (show _ = (i : Int) by rw [abd (by omega)]; omega) ?_
   refine gi (hR i (by omega)) ?_
   refine gc (ih k' (by omega) i _ _ _ _ (by omega) (by omega) s2.1 nd s2.2.2 cd (by omega)) ?_
   refine gc (afi _ _ (fun q hq => s1.2.2.qs (by omega) hq) (fun q hq => s3.2.2.qs (by omega) hq) (by have := s1.1.le; omega) (by have := s3.1.le; omega)) ?_
   refine gD ?_
   refine gc (ih k' (by omega) i _ _ e f (by omega) (by omega) n1 n4 cX.take cY.drop (by omega)) ?_
   refine gc (ih k' (by omega) i _ _ e f (by omega) (by omega) n2 n3 cX.drop cY.take (by omega)) ?_
   refine gc (afi _ _ (fun q hq => s4.2.2.qs (by omega) hq) (fun q hq => s5.2.2.qs (by omega) hq) (by have := s4.1.le; omega) (by have := s5.1.le; omega)) ?_
   refine gD ?_
   refine gs (adh (.tmp rfl) (.const _) (by omega) (show _ = ((2 ^ i : Nat) : Int) by rw [ab5 (by omega),hnn,abx]) rfl) ?_
   refine gt (aam (ajy 900 rfl _ (2 ^ i) (by have := s1.1.le; have := s3.1.le; rw [abg]; omega) (by omega)) (.cons (.tmp rfl) (.cons (.tmp rfl) .nil)) (by first | exact hH0 | exact hH1 rfl | exact hH2 rfl rfl) rfl rfl) ?_
   refine gs (adh (.tmp rfl) (.const _) (by omega) (show _ = ((2 ^ i : Nat) : Int) by rw [ab5 (by omega),hnn,abx]) rfl) ?_
   refine gc (afj _ (2 ^ i) (by have := s4.1.le; have := s5.1.le; rw [abg]; omega) (by omega)) ?_
   refine gs (aew (.tmp rfl) rfl (by have := s1.1.le; have := s3.1.le; rw [length_map,aba (by rw [abg]; omega)]) (.tmp rfl) T38 rfl T82 rfl rfl (by have := s4.1.le; have := s5.1.le; rw [length_map,aba (by rw [abg]; omega)]; show (2 ^ i + 2 ^ i) * 56 <= 140737488355328; omega) rfl rfl) ?_
   refine gE1 ?_
   rw [hrt,<- map_append]; rfl
theorem az1 (ts : List (List Rat)) (m r : Nat) (ht : a0w ts m r) (hm : m <= 5) (R : List AV) (hR : ∀ j, j < m -> R[j]? = some (nA (ts.getD j []))) (i n : Nat) (a : List Rat) (e : Nat) (hi : i + 1 <= m) (hnn : n = 2 ^ (i + 1)) (hal : a.length = 2 ^ (i + 1)) (ca : Cb e a) (hs : 4 * e + 3 * eB r i + r + 1 < 4398046511104) :
  FnC prog 293 [.agg [.lst 1 R],nA a,i64 n] (nA (ao1 ts i a)) := by
 have hp2 := Nat.two_pow_pos i
 have hpi : 2 ^ i <= 32 := aa7 (b := 5) (by omega)
 have hps : 2 ^ (i + 1) = 2 * 2 ^ i:=by rw [Nat.pow_succ]; omega
 have n1 : Nl i (a.take (2 ^ i)) := .inr ⟨i,le_refl _,ac2 hal⟩
 have n2 : Nl i (a.drop (2 ^ i)) := .inr ⟨i,le_refl _,ade hal⟩
 have nd := ht.1 i (by omega)
 have cd := ht.2.cb i
 have s1 := ae4 hm ht (k := i) (show i <= m by omega) (by omega) n1 n1 ca.take ca.take
 have s2 := ae4 hm ht (k := i) (show i <= m by omega) (by omega) n2 n2 ca.drop ca.drop
 have s3 := ae4 hm ht (k := i) (show i <= m by omega) (by omega) s2.1 nd s2.2.2 cd
 have w1 := afj a n (by omega) (by omega)
 rw [show aat a n = a by unfold aat; rw [hnn,hal]; simp] at w1
 have pw := afq n (by omega)
 rw [show pwk n = i + 1 by rw [hnn]; exact (ar6 (by omega)).1,show pwb n = true by rw [hnn]; exact (ar6 (by omega)).2] at pw
 refine gF0 func293 ?_
 refine gc w1 ?_
 refine gc pw ?_
 refine gs (adh (.tmp rfl) (.const _) (by omega) (show _ = ((2 ^ i : Nat) : Int) by rw [ab5 (by omega),hnn,abx]) rfl) ?_
 refine gs (aan (.tmp rfl) (.none _) (.some _ (.tmp rfl) (by omega)) T38 rfl T82 rfl (by omega) (by simp only [length_map]; omega) rfl) ?_
 refine gs (adh (.tmp rfl) (.const _) (by omega) (show _ = ((2 ^ i : Nat) : Int) by rw [ab5 (by omega),hnn,abx]) rfl) ?_
 refine gs (aan (.tmp rfl) (.some _ (.tmp rfl) (by omega)) (.none _) T38 rfl T82 rfl (by simp only [length_map]; omega) (by omega) rfl) ?_
 refine gD ?_ (4,0)
 refine gW (Wk.of (sl := [(3,some (.ptr 3 0)),(7,some (i64 ((i + 1 : Nat) : Int))),(9,some (nA (a.take (2 ^ i)))),(10,some (nA (a.drop (2 ^ i))))]) (hp := [(3,some (.box [.lst 1 R]))]) (.k (.k (.cons rfl (Sub.of (aib a (2 ^ i))) (.cons rfl (Sub.of (af9 a (2 ^ i))) .nil)))) (.cons rfl (.refl _) .nil)) ?_
 refine gc (ag5 ts m r ht hm R hR i i _ _ e e (by omega) (by omega) n1 n1 ca.take ca.take (by omega)) ?_
 refine gc (ag5 ts m r ht hm R hR i i _ _ e e (by omega) (by omega) n2 n2 ca.drop ca.drop (by omega)) ?_
 refine ga (show _ = (i : Int) by rw [abd (by omega)]; omega) ?_
 refine gi (hR i (by omega)) ?_
 refine gc (ag5 ts m r ht hm R hR i i _ _ _ _ (by omega) (by omega) s2.1 nd s2.2.2 cd (by omega)) ?_
 refine gc (alp _ (fun q hq => s3.2.2.qs (by omega) hq) (by have := s3.1.le; omega)) ?_
 refine gc (afi _ _ (fun q hq => s1.2.2.qs (by omega) hq) (fun q hq => s3.2.2.minus.qs (by omega) hq) (by have := s1.1.le; omega) (by have := s3.1.le; rw [acg]; omega)) ?_
 refine gD ?_
 refine gE1 ?_
 rfl
theorem al9 (ts : List (List Rat)) (m r : Nat) (ht : a0w ts m r) (hm : m <= 5) (hpos : ∀ j, j < m -> 0 <= T.sgn (aaq ts) j (aaq ts j)) (R : List AV) (hR : ∀ j, j < m -> R[j]? = some (nA (ts.getD j []))) (j : Nat) : ∀ (a : List Rat) (e : Nat), j <= m -> Nl j a -> Cb e a -> sB r j e < 4398046511104 ->
  FnC prog 176 [.agg [.lst 1 R],nA a] (i64 (T.sgn (aaq ts) j (dec j a))) := by
 induction j using Nat.strongRecOn
 rename_i j ih
 intro a e hj ha ca hs
 have hse := a3j r j e
 obtain ⟨s,hsa⟩ : ∃ s,s = sh j (dec j a) := ⟨_,rfl⟩
 have hsd : dec j s = dec j a:=by rw [hsa,ad9]
 have hsn : Nl j s:=by rw [hsa]; exact apz j _
 have cs : Cb e s:=by rw [hsa]; exact ca.sh ha
 have hls := hsn.len5 (by omega)
 rw [<- hsd]
 refine gF0 func176 ?_
 refine gc (hsa ▸ aea a (by omega) ha) ?_
 refine gl ?_
 refine gC (fun ht15 => ?_) (fun ht15 => ?_)
 ·have h1 : s = [] := List.length_eq_zero_iff.1 (by have := ht15; simp only [aab, beq_iff_eq] at this; omega)
  refine gE1 ?_
  rw [h1,afw,T.sgn_zero]; rfl
 ·have h1 : s.length ≠ 0 := by have := ht15; simp only [aab, beq_eq_false_iff_ne, ne_eq] at this; omega
  refine gl ?_
  refine gC (fun ht19 => ?_) (fun ht19 => ?_)
  ·have h2 : s.length = 1 := by have := ht19; simp only [aab, beq_iff_eq] at this; omega
   obtain ⟨q,rfl⟩ := List.length_eq_one_iff.1 h2
   refine gi rfl ?_
   refine gc (aqp (rt q) (cs.qs (by omega) (by simp : q ∈ [q])).ok) ?_
   refine gE1 ?_
   rw [alt,T.sgn_ofQ,aho]
  ·have h2 : s.length ≠ 1 := by have := ht19; simp only [aab, beq_eq_false_iff_ne, ne_eq] at this; omega
   obtain ⟨i, hij, hsl⟩ : ∃ i, i + 1 <= j /\ s.length = 2 ^ (i + 1) := by
    rcases ail hsn with h | h | h
    ·exact absurd h h1
    ·exact absurd h h2
    ·exact h
   have hp2 := Nat.two_pow_pos i
   have hpi : 2 ^ i <= 32 := aa7 (b := 5) (by omega)
   have hps : 2 ^ (i + 1) = 2 * 2 ^ i:=by rw [Nat.pow_succ]; omega
   have n1 : Nl i (s.take (2 ^ i)) := .inr ⟨i,le_refl _,ac2 hsl⟩
   have n2 : Nl i (s.drop (2 ^ i)) := .inr ⟨i,le_refl _,ade hsl⟩
   have nd := ht.1 i (by omega)
   have cd := ht.2.cb i
   obtain ⟨nn,dn,cn⟩ := awx hm ht (by omega) hsl cs
   have b1 : sB r i (4 * e + 3 * eB r i + r + 1) <= sB r j e := ax2 r e hij
   have b2 : sB r i e <= sB r i (4 * e + 3 * eB r i + r + 1) := alx r i (by omega)
   have b3 : sB r i r <= sB r i (4 * e + 3 * eB r i + r + 1) := alx r i (by omega)
   have b4 := a3j r i (4 * e + 3 * eB r i + r + 1)
   have k1 := ih i (by omega) (s.take (2 ^ i)) e (by omega) n1 cs.take (by omega)
   have k2 := ih i (by omega) (s.drop (2 ^ i)) e (by omega) n2 cs.drop (by omega)
   have k3 := ih i (by omega) _ r (by omega) nd cd (by omega)
   have k4 := ih i (by omega) _ _ (by omega) nn cn (by omega)
   have v3 : T.sgn (aaq ts) i (dec i (ts.getD i [])) = 0 \/ T.sgn (aaq ts) i (dec i (ts.getD i [])) = 1 := by
    have h9 : 0 <= T.sgn (aaq ts) i (dec i (ts.getD i [])) := hpos i (by omega)
    have := T.sgn_cases (aaq ts) i (dec i (ts.getD i []))
    omega
   have hres : T.sgn (aaq ts) j (dec j s) = T.sgn3 (T.sgn (aaq ts) i (dec i (s.take (2 ^ i)))) (T.sgn (aaq ts) i (dec i (s.drop (2 ^ i)))) (T.sgn (aaq ts) i (dec i (ts.getD i []))) (T.sgn (aaq ts) i (dec i (ao1 ts i s))) := by
    rw [a2q _ (by omega) hij,dn]; rfl
   rw [a8x v3] at hres
   have v1 := T.sgn_cases (aaq ts) i (dec i (s.take (2 ^ i)))
   have v2 := T.sgn_cases (aaq ts) i (dec i (s.drop (2 ^ i)))
   have v4 := T.sgn_cases (aaq ts) i (dec i (ao1 ts i s))
   have pw := afq s.length (by omega)
   rw [show pwk s.length = i + 1 by rw [hsl]; exact (ar6 (by omega)).1,show pwb s.length = true by rw [hsl]; exact (ar6 (by omega)).2] at pw
   refine gc pw ?_
   refine ga (show _ = (i : Int) by rw [abd (by omega)]; omega) ?_
   refine gi (hR i (by omega)) ?_
   refine gs (adh (.tmp rfl) (.const _) (by omega) (show _ = ((2 ^ i : Nat) : Int) by rw [ab5 (by omega),hsl,abx]) rfl) ?_
   refine gs (aan (.tmp rfl) (.none _) (.some _ (.tmp rfl) (by omega)) T38 rfl T82 rfl (by omega) (by simp only [length_map]; omega) rfl) ?_
   refine gc (by have h9 := k1; rw [<- aib] at h9; exact h9) ?_
   refine gs (adh (.tmp rfl) (.const _) (by omega) (show _ = ((2 ^ i : Nat) : Int) by rw [ab5 (by omega),hsl,abx]) rfl) ?_
   refine gs (aan (.tmp rfl) (.some _ (.tmp rfl) (by omega)) (.none _) T38 rfl T82 rfl (by simp only [length_map]; omega) (by omega) rfl) ?_
   refine gc (by have h9 := k2; rw [<- af9] at h9; exact h9) ?_
   refine gc k3 ?_
   refine ga (aod v2 (.inr v3)) ?_
   refine gD ?_
   refine gC (fun ht57 => ?_) (fun ht57 => ?_)
   ·have e2 := avt ht57
    refine gE1 ?_
    rw [hres,if_pos e2]
   ·have e2 := arv ht57
    refine gC (fun ht60 => ?_) (fun ht60 => ?_)
    ·have e3 : T.sgn (aaq ts) i (dec i (s.take (2 ^ i))) = 0 := by simpa [aab] using ht60
     refine gE1 ?_
     rw [hres,if_neg e2,if_pos e3]; rfl
    ·have e3 : ¬ T.sgn (aaq ts) i (dec i (s.take (2 ^ i))) = 0 := by simpa [aab] using ht60
     refine gc (az1 ts m r ht hm R hR i s.length s e (by omega) hsl hsl cs (by omega)) ?_
     refine gc k4 ?_
     refine ga (aod v1 v4) ?_
     refine gD ?_
     refine gE1 ?_
     rw [hres,if_neg e2,if_neg e3]; rfl
theorem aok (rs : List (List Rt)) (r : Nat) (h : TR rs r) : FnC prog 129 [agt rs] (i64 (aev rs)) := by
 have hll := h.ll
 have hr := h.le
 refine gF0 func129 ?_
 refine gl ?_
 refine gC (fun ht9 => ?_) (fun ht9 => ?_)
 ·have h5 : 5 < rs.length := by have := ht9; simp only [aab, decide_eq_true_eq] at this; omega
  refine gE1 ?_
  rw [axp h5]; rfl
 ·have h5 : rs.length <= 5 := by have := ht9; simp only [aab, decide_eq_false_iff_not] at this; omega
  refine gl ?_
  refine gL1 [1,11,12] [1] (fun (k : Nat) => [(13,some (i64 k))]) (fun _ => []) (fun k => k <= rs.length /\ ∀ j,j < k -> au3 rs j) (fun k => rs.length - k) 0 ⟨zero_le _,fun j hj => by omega⟩ ?_
  rintro k ⟨hk,hj⟩ K1 hK1
  refine gC (fun ht14 => ?_) (fun ht14 => ?_)
  ·have hin : k < rs.length := by simpa [aab] using ht14
   obtain ⟨d,hd⟩ := adg hin
   have hdm := mem_of_getElem? hd
   have hdl := h.len d hdm
   refine gi (aap hd) ?_
   refine gl ?_
   refine gs (af5 (.const _) (.tmp rfl) (by omega) (aiq (by omega)) rfl) ?_
   refine gC (fun ht22 => ?_) (fun ht22 => ?_)
   ·have h1 : d.length ≠ 2 ^ k := by have := ht22; simp only [aab, bne_iff_ne, ne_eq] at this; omega
    refine gE1 ?_
    rw [axo h5 hd hj h1]; rfl
   ·have h1 : d.length = 2 ^ k := by have := ht22; simp only [aab, bne_eq_false_iff_eq] at this; omega
    have hnu := ame k (by omega) d (h.ok d hdm) hdl
    refine gc hnu ?_
    refine gC (fun ht27 => ?_) (fun ht27 => ?_)
    ·have h2 := ah0 ht27
     refine gE1 ?_
     rw [axa h5 hd hj h1 h2]
    ·have h2 := ahu ht27
     have hts := as0 (ts := llq rs) (fun j hjk => (hj j hjk).nl) h.rb
     have hq := ask h2 (h.ok d hdm)
     have hcb : Cb r (lq d):=by have := h.rb.cb k; rw [ak6,getD_eq_getElem?_getD,hd] at this; exact this
     have hsg : FnC prog 176 [agt rs, nR d] (i64 (T.sgn (aaq (llq rs)) k (dec k (lq d)))) := by
      have h9 := al9 ((llq rs).take k) k r hts (by omega) (fun j hjk => by rw [T.sgn_congr j (fun i hi => aio (show i < k by omega)),aio hjk]; exact (hj j hjk).2.2) (rs.map nR) (fun j hjk => bcw h.ok (show k <= rs.length by omega) hj hjk) k (lq d) r (le_refl _) hq.2 hcb (azd (le_refl k) (by have := h.three; omega) hr (by have := amv k; omega))
      rw [T.sgn_congr k (fun j hjk => aio hjk)] at h9
      rw [hq.1,aec]
      rw [<- hq.1]; exact h9
     refine gc hsg ?_
     refine gC (fun ht32 => ?_) (fun ht32 => ?_)
     ·have h3 : T.sgn (aaq (llq rs)) k (dec k (lq d)) < 0 := by simpa [aab] using ht32
      refine gE1 ?_
      rw [ax1 h5 hd hj h1 h2 h3]; rfl
     ·have h3 : ¬ T.sgn (aaq (llq rs)) k (dec k (lq d)) < 0 := by simpa [aab] using ht32
      refine ga abl ?_
      exact gK1 hK1 (k + 1) ⟨hin,fun j hjk => by rcases lt_or_ge j k with h9 | h9; exact hj j h9; (have : j = k:=by omega); subst this; exact a13 hd h1 h2 h3⟩
  ·have hin : k = rs.length := by have : rs.length <= k := (by simpa [aab] using ht14); omega
   subst hin
   refine gE1 ?_
   rw [ayo h5 hj]; rfl
theorem adr (rs : List (List Rt)) (r : Nat) (h : TR rs r) (xs : List (List Rt)) (hx : ∀ a ∈ xs, (∀ x ∈ a, x.ok) /\ a.length <= 281474976710656) (hl : xs.length <= 281474976710656) : FnC prog 175 [agt rs, .lst 1 (xs.map nR)] (i64 (aal rs xs)) := by
 refine gF0 func175 ?_
 refine gc (aok rs r h) ?_
 refine gC (fun ht12 => ?_) (fun ht12 => ?_)
 ·have h1 := ah0 ht12
  refine gE1 ?_
  rw [anb h1]
 ·have h1 := ahu ht12
  have h5 : rs.length <= 5:=by have := (acd h h1).1.five; rwa [length_map] at this
  refine gl ?_
  refine gL1 [2,14,15] [2] (fun (i : Nat) => [(16,some (i64 i))]) (fun _ => []) (fun i => i <= xs.length /\ ∀ x ∈ xs.take i,afp rs.length x = 0) (fun i => xs.length - i) 0 ⟨zero_le _,fun x hx => by simp at hx⟩ ?_
  rintro i ⟨hi,hj⟩ K1 hK1
  refine gC (fun ht17 => ?_) (fun ht17 => ?_)
  ·have hin : i < xs.length := by simpa [aab] using ht17
   obtain ⟨a,ha⟩ := adg hin
   have hok := hx a (mem_of_getElem? ha)
   refine gi (aap ha) ?_
   refine gl ?_
   refine gc (ame rs.length h5 a hok.1 hok.2) ?_
   refine gC (fun ht26 => ?_) (fun ht26 => ?_)
   ·have h2 := ah0 ht26
    refine gE1 ?_
    rw [anq h1 ha hj h2]
   ·have h2 := ahu ht26
    refine ga abl ?_
    exact gK1 hK1 (i + 1) ⟨hin,fun x hx => by rw [aah ha] at hx; rcases List.mem_append.1 hx with h9 | h9; exact hj x h9; (rw [List.mem_singleton.1 h9]; exact h2)⟩
  ·have hin : i = xs.length := by have : xs.length <= i := (by simpa [aab] using ht17); omega
   subst hin
   rw [take_length] at hj
   refine gE1 ?_
   rw [ae7 h1 hj]; rfl
theorem a28 (rs : List (List Rt)) (r : Nat) (h : TR rs r) (a b : List Rt) (e f : Nat) (ha : NR a e) (hb : NR b f) (he : e + f <= lm rs.length) :
  FnC prog 131 [agt rs,nR a,nR b] (.tup [nA (if aal rs [a,b] = 0 then sh rs.length (T.add rs.length (dec rs.length (lq a)) (dec rs.length (lq b))) else []),i64 (aal rs [a,b])]) := by
 have hlm := ai3 rs.length
 refine gF0 func131 ?_
 refine gc (adr rs r h [a,b] (amo ha hb) (by simp)) ?_
 refine gC (fun ht15 => ?_) (fun ht15 => ?_) (st2 := (77777,0))
 ·have h1 := ah0 ht15
  refine gR ?_
  exact acl (by rw [if_neg h1]; exact Sub.tup (.cons (.nil _ _ _) (.cons (.refl _) .nil)))
 ·have h1 := ahu ht15
  obtain ⟨h2,h3⟩ := adk h1
  obtain ⟨tw,e0⟩ := acd h h2
  obtain ⟨e1,na⟩ := ha.num (h3 a (by simp))
  obtain ⟨e2,nb⟩ := hb.num (h3 b (by simp))
  have h5 : rs.length <= 5:=by have := tw.five; rwa [length_map] at this
  have hla := na.len5 h5
  have hlb := nb.len5 h5
  have qa : ∀ q ∈ lq a,Qs q := fun q hq => ha.cb.qs (by omega) hq
  have qb : ∀ q ∈ lq b,Qs q := fun q hq => hb.cb.qs (by omega) hq
  have qp : ∀ q ∈ acj (lq a) (lq b),Qs q := fun q hq => (ha.cb.plus hb.cb).qs (by omega) hq
  have np := ag4 na nb
  refine gW (Wk.of (sl := [(1,some (nA (lq a))),(2,some (nA (lq b))),(3,some (.ptr 3 0)),(8,some (i64 (aal rs [a,b])))]) (hp := [(3,some (.box [.lst 1 (rs.map nR)]))]) (.cons rfl (Sub.of e1) (.cons rfl (Sub.of e2) (.k (.k .nil)))) (.cons rfl (.refl _) .nil)) ?_
  refine gc (afi _ _ qa qb (by omega) (by omega)) ?_
  refine gc (aea _ h5 np) ?_
  refine gE2 ?_
  rw [if_pos h1,h1,acx]; rfl
theorem a2l (rs : List (List Rt)) (r : Nat) (h : TR rs r) (a b : List Rt) (e f : Nat) (ha : NR a e) (hb : NR b f) (he : e + f <= lm rs.length) :
  FnC prog 179 [agt rs,nR a,nR b] (.tup [nA (if aal rs [a,b] = 0 then sh rs.length (T.add rs.length (dec rs.length (lq a)) (T.neg rs.length (dec rs.length (lq b)))) else []),i64 (aal rs [a,b])]) := by
 have hlm := ai3 rs.length
 refine gF0 func179 ?_
 refine gc (adr rs r h [a,b] (amo ha hb) (by simp)) ?_
 refine gC (fun ht15 => ?_) (fun ht15 => ?_) (st2 := (77777,0))
 ·have h1 := ah0 ht15
  refine gR ?_
  exact acl (by rw [if_neg h1]; exact Sub.tup (.cons (.nil _ _ _) (.cons (.refl _) .nil)))
 ·have h1 := ahu ht15
  obtain ⟨h2,h3⟩ := adk h1
  obtain ⟨tw,e0⟩ := acd h h2
  obtain ⟨e1,na⟩ := ha.num (h3 a (by simp))
  obtain ⟨e2,nb⟩ := hb.num (h3 b (by simp))
  have h5 : rs.length <= 5:=by have := tw.five; rwa [length_map] at this
  have hla := na.len5 h5
  have hlb := nb.len5 h5
  have qa : ∀ q ∈ lq a,Qs q := fun q hq => ha.cb.qs (by omega) hq
  have qb : ∀ q ∈ lq b,Qs q := fun q hq => hb.cb.qs (by omega) hq
  have qm : ∀ q ∈ aby (lq b),Qs q := fun q hq => hb.cb.minus.qs (by omega) hq
  have qp : ∀ q ∈ acj (lq a) (aby (lq b)),Qs q := fun q hq => (ha.cb.plus hb.cb.minus).qs (by omega) hq
  have np := ag4 na (af7 nb)
  refine gW (Wk.of (sl := [(1,some (nA (lq a))),(2,some (nA (lq b))),(3,some (.ptr 3 0)),(8,some (i64 (aal rs [a,b])))]) (hp := [(3,some (.box [.lst 1 (rs.map nR)]))]) (.cons rfl (Sub.of e1) (.cons rfl (Sub.of e2) (.k (.k .nil)))) (.cons rfl (.refl _) .nil)) ?_
  refine gc (alp _ qb (by omega)) ?_
  refine gc (afi _ _ qa qm (by omega) (by rw [acg]; omega)) ?_
  refine gc (aea _ h5 np) ?_
  refine gE2 ?_
  rw [if_pos h1,h1,acx,ad6]; rfl
theorem a5x (rs : List (List Rt)) (r : Nat) (h : TR rs r) (a b : List Rt) (e f : Nat) (ha : NR a e) (hb : NR b f) (he : e + f <= lm rs.length) :
  FnC prog 180 [agt rs,nR a,nR b] (.tup [nA (if aal rs [a,b] = 0 then sh rs.length (T.mul (aaq (llq rs)) rs.length (dec rs.length (lq a)) (dec rs.length (lq b))) else []),i64 (aal rs [a,b])]) := by
 have hr := h.le
 have hlm := ai3 rs.length
 refine gF0 func180 ?_
 refine gc (adr rs r h [a,b] (amo ha hb) (by simp)) ?_
 refine gC (fun ht15 => ?_) (fun ht15 => ?_) (st2 := (77777,0))
 ·have h1 := ah0 ht15
  refine gR ?_
  exact acl (by rw [if_neg h1]; exact Sub.tup (.cons (.nil _ _ _) (.cons (.refl _) .nil)))
 ·have h1 := ahu ht15
  obtain ⟨h2,h3⟩ := adk h1
  obtain ⟨tw,e0⟩ := acd h h2
  obtain ⟨e1,na⟩ := ha.num (h3 a (by simp))
  obtain ⟨e2,nb⟩ := hb.num (h3 b (by simp))
  have hlen : (llq rs).length = rs.length := length_map _
  have h5 : rs.length <= 5:=by have := tw.five; omega
  have hla := na.len5 h5
  have hlb := nb.len5 h5
  have htw := tw.ok
  rw [hlen] at htw
  have hE := a4a r h5
  have np := ae4 h5 htw (k := rs.length) (le_refl rs.length) (le_refl _) na nb ha.cb hb.cb
  have hti := ag5 (llq rs) rs.length r htw h5 ((llq rs).map nA) (fun j hj => aqx (by omega)) rs.length rs.length _ _ e f (le_refl _) (le_refl _) na nb ha.cb hb.cb (by omega)
  refine gW (Wk.of (sl := [(1,some (nA (lq a))),(2,some (nA (lq b))),(3,some (.ptr 3 0)),(8,some (i64 (aal rs [a,b])))]) (hp := [(3,some (.box [.lst 1 ((llq rs).map nA)]))]) (.cons rfl (Sub.of e1) (.cons rfl (Sub.of e2) (.k (.k .nil)))) (.cons rfl (BlkSub.boxL (.cons (.of (aj3 e0)) .nil) rfl) .nil)) ?_
  refine gc hti ?_
  refine gc (aea _ h5 np.1) ?_
  refine gE2 ?_
  rw [if_pos h1,h1,np.2.1]; rfl
theorem a29 (rs : List (List Rt)) (r : Nat) (h : TR rs r) (a b : List Rt) (e f : Nat) (ha : NR a e) (hb : NR b f) (he : e + f + 1 <= lm rs.length) :
  FnC prog 79 [agt rs,nR a,nR b] (.tup [i64 (if aal rs [a,b] = 0 then T.sgn (aaq (llq rs)) rs.length (T.add rs.length (dec rs.length (lq a)) (T.neg rs.length (dec rs.length (lq b)))) else 0),i64 (aal rs [a,b])]) := by
 have hr := h.le
 have hlm := ai3 rs.length
 refine gF0 func79 ?_
 refine gc (adr rs r h [a,b] (amo ha hb) (by simp)) ?_
 refine gC (fun ht15 => ?_) (fun ht15 => ?_) (st2 := (77777,0))
 ·have h1 := ah0 ht15
  refine gE2 ?_
  rw [if_neg h1]; rfl
 ·have h1 := ahu ht15
  obtain ⟨h2,h3⟩ := adk h1
  obtain ⟨tw,e0⟩ := acd h h2
  obtain ⟨e1,na⟩ := ha.num (h3 a (by simp))
  obtain ⟨e2,nb⟩ := hb.num (h3 b (by simp))
  have hlen : (llq rs).length = rs.length := length_map _
  have h5 : rs.length <= 5:=by have := tw.five; omega
  have hla := na.len5 h5
  have hlb := nb.len5 h5
  have htw := tw.ok
  rw [hlen] at htw
  have qa : ∀ q ∈ lq a,Qs q := fun q hq => ha.cb.qs (by omega) hq
  have qb : ∀ q ∈ lq b,Qs q := fun q hq => hb.cb.qs (by omega) hq
  have qm : ∀ q ∈ aby (lq b),Qs q := fun q hq => hb.cb.minus.qs (by omega) hq
  have np := ag4 na (af7 nb)
  have hsg := al9 (llq rs) rs.length r htw h5 (fun j hj => tw.pos j (by omega)) ((llq rs).map nA) (fun j hj => aqx (by omega)) rs.length _ _ (le_refl _) np (ha.cb.plus hb.cb.minus) (azd (le_refl rs.length) (by have := tw.three; omega) hr (by omega))
  refine gW (Wk.of (sl := [(1,some (nA (lq a))),(2,some (nA (lq b))),(3,some (.ptr 3 0)),(8,some (i64 (aal rs [a,b])))]) (hp := [(3,some (.box [.lst 1 ((llq rs).map nA)]))]) (.cons rfl (Sub.of e1) (.cons rfl (Sub.of e2) (.k (.k .nil)))) (.cons rfl (BlkSub.boxL (.cons (.of (aj3 e0)) .nil) rfl) .nil)) ?_
  refine gc (alp _ qb (by omega)) ?_
  refine gc (afi _ _ qa qm (by omega) (by rw [acg]; omega)) ?_
  refine gc hsg ?_
  refine gD ?_
  refine gE2 ?_
  rw [if_pos h1,h1,acx,ad6]; rfl
theorem a0f (rs : List (List Rt)) (r : Nat) (h : TR rs r) (a : List Rt) (e : Nat) (ha : NR a e) (he : e <= lm rs.length) :
  FnC prog 142 [agt rs,nR a] (.tup [i64 (if aal rs [a] = 0 then T.sgn (aaq (llq rs)) rs.length (dec rs.length (lq a)) else 0),i64 (aal rs [a])]) := by
 have hr := h.le
 have hlm := ai3 rs.length
 refine gF0 func142 ?_
 refine gc (adr rs r h [a] (fun x hx => by rw [List.mem_singleton.1 hx]; exact ⟨ha.ok,ha.len⟩) (by simp)) ?_
 refine gC (fun ht12 => ?_) (fun ht12 => ?_) (st2 := (77777,0))
 ·have h1 := ah0 ht12
  refine gE2 ?_
  rw [if_neg h1]; rfl
 ·have h1 := ahu ht12
  obtain ⟨h2,h3⟩ := adk h1
  obtain ⟨tw,e0⟩ := acd h h2
  obtain ⟨e1,na⟩ := ha.num (h3 a (by simp))
  have hlen : (llq rs).length = rs.length := length_map _
  have h5 : rs.length <= 5:=by have := tw.five; omega
  have htw := tw.ok
  rw [hlen] at htw
  have hsg := al9 (llq rs) rs.length r htw h5 (fun j hj => tw.pos j (by omega)) ((llq rs).map nA) (fun j hj => aqx (by omega)) rs.length _ _ (le_refl _) na ha.cb (azd (le_refl rs.length) (by have := tw.three; omega) hr (by omega))
  refine gW (Wk.of (sl := [(1,some (nA (lq a))),(2,some (.ptr 2 0)),(6,some (i64 (aal rs [a])))]) (hp := [(2,some (.box [.lst 1 ((llq rs).map nA)]))]) (.cons rfl (Sub.of e1) (.k (.k .nil))) (.cons rfl (BlkSub.boxL (.cons (.of (aj3 e0)) .nil) rfl) .nil)) ?_
  refine gc hsg ?_
  refine gE2 ?_
  rw [if_pos h1,h1]; rfl
theorem a0m (rs : List (List Rt)) (r : Nat) (h : TR rs r) (a : List Rt) (e : Nat) (ha : NR a e) (he : e <= lm rs.length) :
  FnC prog 130 [agt rs,nR a] (.tup [nA (if aal rs [a] = 0 then aat (lq a) (2 ^ rs.length) else []),i64 (aal rs [a])]) := by
 have hlm := ai3 rs.length
 refine gF0 func130 ?_
 refine gc (adr rs r h [a] (fun x hx => by rw [List.mem_singleton.1 hx]; exact ⟨ha.ok,ha.len⟩) (by simp)) ?_
 refine gC (fun ht12 => ?_) (fun ht12 => ?_) (st2 := (77777,0))
 ·have h1 := ah0 ht12
  refine gR ?_
  exact acl (by rw [if_neg h1]; exact Sub.tup (.cons (.nil _ _ _) (.cons (.refl _) .nil)))
 ·have h1 := ahu ht12
  obtain ⟨h2,h3⟩ := adk h1
  obtain ⟨tw,e0⟩ := acd h h2
  obtain ⟨e1,na⟩ := ha.num (h3 a (by simp))
  have hlen : (llq rs).length = rs.length := length_map _
  have h5 : rs.length <= 5:=by have := tw.five; omega
  have hp5 : 2 ^ rs.length <= 32 := aa7 (b := 5) h5
  refine gW (Wk.of (sl := [(1,some (nA (lq a))),(2,some (.ptr 2 0)),(6,some (i64 (aal rs [a])))]) (hp := [(2,some (.box [.lst 1 (rs.map nR)]))]) (.cons rfl (Sub.of e1) (.k (.k .nil))) (.cons rfl (.refl _) .nil)) ?_
  refine gl ?_
  refine gs (af5 (.const _) (.tmp rfl) (by omega) (aiq (by omega)) rfl) ?_
  refine gc (afj _ _ na.le (by omega)) ?_
  refine gE2 ?_
  rw [if_pos h1,h1]; rfl
theorem anm (x : Rt) (hx : x.ok) (hs : Qs x.q) : FnC prog 137 [x.av] (nA (sh 0 (x.q : Rat))) := by
 have hadd := aii x (rt 0) hx Qs.zero.ok
 rw [bhb] at hadd
 refine gF0 func137 ?_
 refine gc (aqp x hx) ?_
 refine gC (fun ht5 => ?_) (fun ht5 => ?_)
 ·have h0 : x.q = 0 := alb (by simpa [aab] using ht5)
  refine gR ?_
  exact ad3 (by rw [h0]; exact Sub.nil _ _ _)
 ·have h0 : x.q ≠ 0 := fun h => by rw [h] at ht5; cases ht5
  refine gc (Con.subA (.cons (.refl _) (.cons atq .nil)) hadd) ?_
  refine gE1 ?_
  have : sh 0 (x.q : Rat) = [x.q] := if_neg h0
  rw [this]; rfl
end Go.Lw
namespace Go.Lw
open Go.Proofs
theorem blm {p q : Rat} (hp : Qs p) (hq : Qs q) : FnC prog 206 [qA p, qA q] (qA (p + q)) := by
 have h := aeu (rt p) (rt q) hp.ok hq.ok
 rw [aho,aho] at h
 exact h
theorem bmq {p q : Rat} (hp : Qs p) (hq : Qs q) : FnC prog 281 [qA p, qA q] (qA (p - q)) := by
 have h := ap8 (rt p) (rt q) hp.ok hq.ok
 rw [aho,aho] at h
 exact h
theorem bll {p q : Rat} (hp : Qs p) (hq : Qs q) : FnC prog 288 [qA p, qA q] (qA (p * q)) := by
 have h := ajf (rt p) (rt q) hp.ok hq.ok
 rw [aho,aho] at h
 exact h
theorem bk6 {p q : Rat} (hp : Qs p) (hq : Qs q) : FnC prog 431 [qA p, qA q] (.tup [qA (p / q), afe (if q = 0 then 8 else 0)]) := by
 have h := ap7 (rt p) (rt q) hp.ok hq.ok
 rw [aho,aho] at h
 exact h
theorem bky {p : Rat} (hp : Qs p) : FnC prog 111 [qA p] (qA (-p)) := by
 have h := agf (rt p) hp.ok
 rw [aho] at h
 exact h
theorem bip {p : Rat} (hp : Qs p) : FnC prog 313 [qA p] (i64 (amb p)) := by
 have h := afu (rt p) hp.ok
 rw [aho] at h
 exact h
end Go.Lw
namespace Go.Lw
open Go.Proofs
theorem a37 {ts : List (List Rat)} {r e f : Nat} (tw : Tw ts r) {a b : List Rat} (ha : Nm ts.length e a) (hb : Nm ts.length f b) (he : e + f <= lm ts.length) :
  FnC prog 231 [aez ts,nA a,nA b] (.tup [nA (sh ts.length (T.add ts.length (dec ts.length a) (dec ts.length b))),.v .nilIface]) := by
 have h := awn (ts.map (List.map rt)) r tw.tr (a.map rt) (b.map rt) e f (ha.rt (by omega)) (hb.rt (by omega)) (by rw [length_map]; exact he)
 have h0 : aal (ts.map (List.map rt)) [a.map rt,b.map rt] = 0 := aic tw ha hb
 rw [h0,if_pos rfl,ae6,aec,aec,agd,agd,length_map] at h
 exact h
theorem a4p {ts : List (List Rat)} {r e f : Nat} (tw : Tw ts r) {a b : List Rat} (ha : Nm ts.length e a) (hb : Nm ts.length f b) (he : e + f <= lm ts.length) :
  FnC prog 163 [aez ts,nA a,nA b] (.tup [nA (sh ts.length (T.add ts.length (dec ts.length a) (T.neg ts.length (dec ts.length b)))),.v .nilIface]) := by
 have h := awa (ts.map (List.map rt)) r tw.tr (a.map rt) (b.map rt) e f (ha.rt (by omega)) (hb.rt (by omega)) (by rw [length_map]; exact he)
 have h0 : aal (ts.map (List.map rt)) [a.map rt,b.map rt] = 0 := aic tw ha hb
 rw [h0,if_pos rfl,ae6,aec,aec,agd,agd,length_map] at h
 exact h
theorem a1j {ts : List (List Rat)} {r e f : Nat} (tw : Tw ts r) {a b : List Rat} (ha : Nm ts.length e a) (hb : Nm ts.length f b) (he : e + f <= lm ts.length) :
  FnC prog 164 [aez ts,nA a,nA b] (.tup [nA (sh ts.length (T.mul (aaq ts) ts.length (dec ts.length a) (dec ts.length b))),.v .nilIface]) := by
 have h := aws (ts.map (List.map rt)) r tw.tr (a.map rt) (b.map rt) e f (ha.rt (by omega)) (hb.rt (by omega)) (by rw [length_map]; exact he)
 have h0 : aal (ts.map (List.map rt)) [a.map rt,b.map rt] = 0 := aic tw ha hb
 rw [h0,if_pos rfl,ae6,aec,aec,amj,agd,agd,length_map] at h
 exact h
theorem bi9 {ts : List (List Rat)} {r e f : Nat} (tw : Tw ts r) {a b : List Rat} (ha : Nm ts.length e a) (hb : Nm ts.length f b) (he : e + f + 1 <= lm ts.length) :
  FnC prog 449 [aez ts,nA a,nA b] (.tup [i64 (T.sgn (aaq ts) ts.length (T.add ts.length (dec ts.length a) (T.neg ts.length (dec ts.length b)))),.v .nilIface]) := by
 have h := avy (ts.map (List.map rt)) r tw.tr (a.map rt) (b.map rt) e f (ha.rt (by omega)) (hb.rt (by omega)) (by rw [length_map]; exact he)
 have h0 : aal (ts.map (List.map rt)) [a.map rt,b.map rt] = 0 := aic tw ha hb
 rw [h0,if_pos rfl,ae6,aec,aec,amj,agd,agd,length_map] at h
 exact h
theorem a21 {ts : List (List Rat)} {r e : Nat} (tw : Tw ts r) {a : List Rat} (ha : Nm ts.length e a) (he : e <= lm ts.length) :
  FnC prog 205 [aez ts,nA a] (.tup [i64 (T.sgn (aaq ts) ts.length (dec ts.length a)),.v .nilIface]) := by
 have h := auw (ts.map (List.map rt)) r tw.tr (a.map rt) e (ha.rt he) (by rw [length_map]; exact he)
 have h0 : aal (ts.map (List.map rt)) [a.map rt] = 0 := av7 tw ha
 rw [h0,if_pos rfl,ae6,aec,amj,agd,length_map] at h
 exact h
theorem bfg {ts : List (List Rat)} {r e f : Nat} (tw : Tw ts r) {a b : List Rat} (ha : Nm ts.length e a) (hb : Nm ts.length f b) (he : e + f <= lm ts.length) :
  FnC prog 131 [aez ts,nA a,nA b] (.tup [nA (sh ts.length (T.add ts.length (dec ts.length a) (dec ts.length b))),i64 0]) := by
 have h := a28 (ts.map (List.map rt)) r tw.tr (a.map rt) (b.map rt) e f (ha.rt (by omega)) (hb.rt (by omega)) (by rw [length_map]; exact he)
 have h0 : aal (ts.map (List.map rt)) [a.map rt,b.map rt] = 0 := aic tw ha hb
 rw [h0,if_pos rfl,ae6,aec,aec,agd,agd,length_map] at h
 exact h
theorem bhc {ts : List (List Rat)} {r e f : Nat} (tw : Tw ts r) {a b : List Rat} (ha : Nm ts.length e a) (hb : Nm ts.length f b) (he : e + f <= lm ts.length) :
  FnC prog 179 [aez ts,nA a,nA b] (.tup [nA (sh ts.length (T.add ts.length (dec ts.length a) (T.neg ts.length (dec ts.length b)))),i64 0]) := by
 have h := a2l (ts.map (List.map rt)) r tw.tr (a.map rt) (b.map rt) e f (ha.rt (by omega)) (hb.rt (by omega)) (by rw [length_map]; exact he)
 have h0 : aal (ts.map (List.map rt)) [a.map rt,b.map rt] = 0 := aic tw ha hb
 rw [h0,if_pos rfl,ae6,aec,aec,agd,agd,length_map] at h
 exact h
theorem bjc {ts : List (List Rat)} {r e f : Nat} (tw : Tw ts r) {a b : List Rat} (ha : Nm ts.length e a) (hb : Nm ts.length f b) (he : e + f <= lm ts.length) :
  FnC prog 180 [aez ts,nA a,nA b] (.tup [nA (sh ts.length (T.mul (aaq ts) ts.length (dec ts.length a) (dec ts.length b))),i64 0]) := by
 have h := a5x (ts.map (List.map rt)) r tw.tr (a.map rt) (b.map rt) e f (ha.rt (by omega)) (hb.rt (by omega)) (by rw [length_map]; exact he)
 have h0 : aal (ts.map (List.map rt)) [a.map rt,b.map rt] = 0 := aic tw ha hb
 rw [h0,if_pos rfl,ae6,aec,aec,amj,agd,agd,length_map] at h
 exact h
theorem biq {ts : List (List Rat)} {r e f : Nat} (tw : Tw ts r) {a b : List Rat} (ha : Nm ts.length e a) (hb : Nm ts.length f b) (he : e + f + 1 <= lm ts.length) :
  FnC prog 79 [aez ts,nA a,nA b] (.tup [i64 (T.sgn (aaq ts) ts.length (T.add ts.length (dec ts.length a) (T.neg ts.length (dec ts.length b)))),i64 0]) := by
 have h := a29 (ts.map (List.map rt)) r tw.tr (a.map rt) (b.map rt) e f (ha.rt (by omega)) (hb.rt (by omega)) (by rw [length_map]; exact he)
 have h0 : aal (ts.map (List.map rt)) [a.map rt,b.map rt] = 0 := aic tw ha hb
 rw [h0,if_pos rfl,ae6,aec,aec,amj,agd,agd,length_map] at h
 exact h
theorem bd0 {ts : List (List Rat)} {r e : Nat} (tw : Tw ts r) {a : List Rat} (ha : Nm ts.length e a) (he : e <= lm ts.length) :
  FnC prog 142 [aez ts,nA a] (.tup [i64 (T.sgn (aaq ts) ts.length (dec ts.length a)),i64 0]) := by
 have h := a0f (ts.map (List.map rt)) r tw.tr (a.map rt) e (ha.rt he) (by rw [length_map]; exact he)
 have h0 : aal (ts.map (List.map rt)) [a.map rt] = 0 := av7 tw ha
 rw [h0,if_pos rfl,ae6,aec,amj,agd,length_map] at h
 exact h
theorem a1o {ts : List (List Rat)} {r e : Nat} (tw : Tw ts r) {a : List Rat} (ha : Nm ts.length e a) (he : e <= lm ts.length) :
  FnC prog 148 [aez ts,nA a] (.tup [nA (sh ts.length (T.neg ts.length (dec ts.length a))),.v .nilIface]) := by
 have h := ajw (ts.map (List.map rt)) r tw.tr (a.map rt) e (ha.rt he) (by rw [length_map]; exact he)
 have h0 : aal (ts.map (List.map rt)) [a.map rt] = 0 := av7 tw ha
 rw [h0,if_pos rfl,ae6,aec,agd,length_map] at h
 exact h
theorem anl {ts : List (List Rat)} {r : Nat} (tw : Tw ts r) : FnC prog 145 [aez ts] (.v .nilIface) := by
 have h := afc (ts.map (List.map rt)) r tw.tr
 rw [tw.chk,ae6] at h
 exact h
theorem blf {q : Rat} (h : Qs q) : FnC prog 149 [qA q] (nA (sh 0 (q : Rat))) := by
 have h1 := ait (rt q) h.ok (by rw [aho]; exact h)
 rw [aho] at h1
 exact h1
theorem bl1 {q : Rat} (h : Qs q) : FnC prog 137 [qA q] (nA (sh 0 (q : Rat))) := by
 have h1 := anm (rt q) h.ok (by rw [aho]; exact h)
 rw [aho] at h1
 exact h1
theorem akm {ts : List (List Rat)} {r e : Nat} (tw : Tw ts r) (ls : List (List Rat)) (hl : ∀ l ∈ ls, Nm ts.length e l) (he : e <= lm ts.length) (hn : ls.length <= 1000) : FnC prog 167 [aez ts, .lst 1 (ls.map nA)] (.v .nilIface) := by
 refine gF0 func167 ?_
 refine gc (anl tw) ?_
 refine gC (fun ht13 => ?_) (fun ht13 => ?_) (st1 := (3,0))
 ·cases ht13
 ·refine gl ?_
  refine gL1 [2,15,16] [2] (fun (i : Nat) => [(17,some (i64 i))]) (fun _ => []) (fun i => i <= ls.length) (fun i => ls.length - i) 0 (zero_le _) ?_
  rintro i hi K1 hK1
  refine gC (fun ht18 => ?_) (fun ht18 => ?_)
  ·have hin : i < ls.length := by simpa [aab] using ht18
   obtain ⟨l,hll⟩ := adg hin
   have hok := hl l (mem_of_getElem? hll)
   refine gi (aap hll) ?_
   refine gc (a1o tw hok he) ?_
   refine gC (fun ht28 => ?_) (fun ht28 => ?_) (st1 := (9,0))
   ·cases ht28
   ·refine ga abl ?_
    exact gK1 hK1 (i + 1) hin
  ·have hin : i = ls.length := by have : ls.length <= i := (by simpa [aab] using ht18); omega
   refine gE1 ?_
   first | rfl | (simp; done)
theorem aht {ts : List (List Rat)} {r e : Nat} (tw : Tw ts r) (ps : List (List Rat × List Rat)) (hl : ∀ p ∈ ps, Nm ts.length e p.1 /\ Nm ts.length e p.2) (he : e <= lm ts.length) (hn : ps.length <= 500) : FnC prog 158 [aez ts, .lst 2 (ps.map fun p => ptA p.1 p.2)] (.v .nilIface) := by
 refine gF0 func158 ?_
 refine gl ?_
 refine gW (Wk.virt 900 1 rfl) ?_
 refine gL1 [2,8,9] [2] (fun (i : Nat) => [(5,some (.ms 900 1 0 (2 * i))),(10,some (i64 i))]) (fun i => [(900,some (.row 1 ((aks (ps.take i)).map nA)))]) (fun i => i <= ps.length) (fun i => ps.length - i) 0 (zero_le _) ?_
 rintro i hi K1 hK1
 refine gC (fun ht11 => ?_) (fun ht11 => ?_) (st2 := (7,0))
 ·have hin : i < ps.length := by simpa [aab] using ht11
  obtain ⟨p,hp⟩ := adg hin
  have hfl : (aks (ps.take i)).length = 2 * i:=by rw [akn,length_take]; omega
  refine gi (aap hp) ?_
  refine gs (abq (.tmp rfl) rfl (by rw [length_map,hfl]) (.tmp rfl) T27 rfl T38 rfl rfl (by simp; omega) rfl rfl) ?_ (6,0)
  refine gW (Wk.of (sl := [(2,some (.ptr 2 0)),(5,some (.ms 20 1 0 (2 * i + 2))),(8,some (.lst 2 (ps.map fun p => ptA p.1 p.2))),(9,some (i64 ps.length)),(10,some (i64 i))]) (hp := [(2,some (.box [.lst 1 (ts.map nA)])),(20,some (.row 1 ((aks (ps.take (i + 1))).map nA)))]) abu (.cons rfl (.refl _) (.cons rfl (BlkSub.of (by rw [aah hp,atn,map_append]; rfl)) .nil))) ?_ (6,0)
  refine gW (Wk.rekey (k := 20) (d := 900) rfl rfl) ?_
  refine ga abl ?_
  exact gK1 hK1 (i + 1) hin
 ·have hin : i = ps.length := by have : ps.length <= i := (by simpa [aab] using ht11); omega
  subst hin
  refine gW ((Wk.freeze (k := 900) rfl).trans <| Wk.of (sl := [(2,some (.ptr 2 0)),(5,some (.lst 1 ((aks ps).map nA)))]) (hp := [(2,some (.box [.lst 1 (ts.map nA)]))]) (.k (.cons rfl (Sub.of (by rw [acb (by rw [length_map,akn,length_take]; omega),take_length])) .nil)) (.cons rfl (.refl _) .nil)) ?_
  refine gc (akm tw (aks ps) (auh hl) he (by rw [akn]; omega)) ?_
  refine gE1 ?_
  first | rfl | (simp; done)
theorem al1 (R : List AV) (a : List Rat) : Con prog 365 [.ptr 1000 0, nA a, .v .nilIface] [(1000, some (.box [.lst 1 R, .v .nilIface]))] (nA a) [(1000, some (.box [.lst 1 R, .v .nilIface]))] := by
 refine gF func365 (fun k z h => aex h) ?_
 refine gC (fun ht11 => ?_) (fun ht11 => ?_) (st2 := (77777,0))
 ·refine gR ?_
  exact Fin.keep (aly rfl)
 ·cases ht11
theorem akc {ts : List (List Rat)} {r e f : Nat} (tw : Tw ts r) {a b : List Rat} (ha : Nm ts.length e a) (hb : Nm ts.length f b) (he : e + f <= lm ts.length) :
  Con prog 287 [.ptr 1000 0,nA a,nA b] [(1000,some (a0x ts))] (nA (sh ts.length (T.add ts.length (dec ts.length a) (dec ts.length b)))) [(1000,some (a0x ts))] := by
 refine gF func287 (fun k z h => aex h) ?_
 refine gc (a37 tw ha hb he) ?_
 refine gt (aam (al1 _ _) (.cons (.tmp rfl) (.cons (.tmp rfl) (.cons (.tmp rfl) .nil))) (by first | exact hH0 | exact hH1 rfl | exact hH2 rfl rfl) rfl rfl) ?_
 refine gR ?_
 exact Fin.keep (aly rfl)
theorem a20 {ts : List (List Rat)} {r e f : Nat} (tw : Tw ts r) {a b : List Rat} (ha : Nm ts.length e a) (hb : Nm ts.length f b) (he : e + f <= lm ts.length) :
  Con prog 282 [.ptr 1000 0,nA a,nA b] [(1000,some (a0x ts))] (nA (sh ts.length (T.add ts.length (dec ts.length a) (T.neg ts.length (dec ts.length b))))) [(1000,some (a0x ts))] := by
 refine gF func282 (fun k z h => aex h) ?_
 refine gc (a4p tw ha hb he) ?_
 refine gt (aam (al1 _ _) (.cons (.tmp rfl) (.cons (.tmp rfl) (.cons (.tmp rfl) .nil))) (by first | exact hH0 | exact hH1 rfl | exact hH2 rfl rfl) rfl rfl) ?_
 refine gR ?_
 exact Fin.keep (aly rfl)
theorem agn {ts : List (List Rat)} {r e f : Nat} (tw : Tw ts r) {a b : List Rat} (ha : Nm ts.length e a) (hb : Nm ts.length f b) (he : e + f <= lm ts.length) :
  Con prog 284 [.ptr 1000 0,nA a,nA b] [(1000,some (a0x ts))] (nA (sh ts.length (T.mul (aaq ts) ts.length (dec ts.length a) (dec ts.length b)))) [(1000,some (a0x ts))] := by
 refine gF func284 (fun k z h => aex h) ?_
 refine gc (a1j tw ha hb he) ?_
 refine gt (aam (al1 _ _) (.cons (.tmp rfl) (.cons (.tmp rfl) (.cons (.tmp rfl) .nil))) (by first | exact hH0 | exact hH1 rfl | exact hH2 rfl rfl) rfl rfl) ?_
 refine gR ?_
 exact Fin.keep (aly rfl)
theorem a07 {ts : List (List Rat)} {r e f : Nat} (tw : Tw ts r) {a b c d : List Rat} (ha : Nm ts.length e a) (hb : Nm ts.length e b) (hc : Nm ts.length f c) (hd : Nm ts.length f d) (he : 2 * (e + f + kB r ts.length) <= lm ts.length) :
  Con prog 165 [.ptr 1000 0,ptA a b,ptA c d] [(1000,some (a0x ts))] (nA (sh ts.length (be1 ts (dec ts.length a) (dec ts.length b) (dec ts.length c) (dec ts.length d)))) [(1000,some (a0x ts))] := by
 refine gF func165 (fun k z h => aex h) ?_
 refine gt (aam (agn tw ha hc (by omega)) (.cons (.tmp rfl) (.cons (.tmp rfl) (.cons (.tmp rfl) .nil))) (by first | exact hH0 | exact hH1 rfl | exact hH2 rfl rfl) rfl rfl) ?_
 refine gt (aam (agn tw hb hd (by omega)) (.cons (.tmp rfl) (.cons (.tmp rfl) (.cons (.tmp rfl) .nil))) (by first | exact hH0 | exact hH1 rfl | exact hH2 rfl rfl) rfl rfl) ?_
 refine gt (aam (ats ▸ akc tw (ha.mul tw rfl hc) (hb.mul tw rfl hd) (by omega)) (.cons (.tmp rfl) (.cons (.tmp rfl) (.cons (.tmp rfl) .nil))) (by first | exact hH0 | exact hH1 rfl | exact hH2 rfl rfl) rfl rfl) ?_
 refine gD ?_
 refine gR ?_
 exact Fin.keep (aly rfl)
end Go.Lw
namespace Go.Lw
open Go.Proofs
theorem a2p (R : List AV) (a : List Rat) : Con prog 283 [.ptr 1000 0, nA a] [(1000, some (.box [.lst 1 R, .v .nilIface]))] (.tup [nA a, .v .nilIface]) [(1000, some (.box [.lst 1 R, .v .nilIface]))] := by
 refine gF func283 (fun k z h => aex h) ?_
 refine gC (fun ht10 => ?_) (fun ht10 => ?_) (st1 := (2,0))
 ·cases ht10
 ·refine gR ?_
  show Fin _ (AV.tup [nA a,.v .nilIface]) _ _
  exact Fin.keep (aly rfl)
theorem apc (R : List AV) (a b : List Rat) : Con prog 159 [.ptr 1000 0, ptA a b] [(1000, some (.box [.lst 1 R, .v .nilIface]))] (.tup [ptA a b, .v .nilIface]) [(1000, some (.box [.lst 1 R, .v .nilIface]))] := by
 refine gF func159 (fun k z h => aex h) ?_
 refine gC (fun ht10 => ?_) (fun ht10 => ?_) (st1 := (2,0))
 ·cases ht10
 ·refine gR ?_
  show Fin _ (AV.tup [ptA a b,.v .nilIface]) _ _
  exact Fin.keep (aly rfl)
theorem apr {ts : List (List Rat)} {r e : Nat} (tw : Tw ts r) {a b c d : List Rat} (ha : Nm ts.length e a) (hb : Nm ts.length e b) (hc : Nm ts.length e c) (hd : Nm ts.length e d) (he : e <= lm ts.length) (f : FuncId) (v : List Rat)
  (hf : Con prog f [.ptr 1000 0,ptA a b,ptA c d] [(1000,some (a0x ts))] (nA v) [(1000,some (a0x ts))]) :
  FnC prog 161 [aez ts,ptA a b,ptA c d,.fn f []] (.tup [nA v,.v .nilIface]) := by
 refine gF0 func161 ?_
 refine gc (aht (e := e) tw [(a,b),(c,d)] (by simp only [mem_cons,not_mem_nil,or_false]; rintro p (rfl | rfl); exact ⟨ha,hb⟩; exact ⟨hc,hd⟩) he (by simp)) ?_
 refine gC (fun ht18 => ?_) (fun ht18 => ?_) (st1 := (3,0))
 ·cases ht18
 ·refine gs (a1s (.tmp rfl) (show Con prog f ([.ptr 22 0, ptA a b, ptA c d] ++ []) [(22, some (a0x ts))] (nA v) [(22, some (a0x ts))] from Con.rekeyB 22 rfl rfl rfl rfl hf) (.cons (.tmp rfl) (.cons (.tmp rfl) (.cons (.tmp rfl) .nil))) (by first | exact hH0 | exact hH1 rfl | exact hH2 rfl rfl) rfl rfl) ?_
  refine gt (aam (Con.rekeyB 22 rfl rfl rfl rfl (a2p _ _)) (.cons (.tmp rfl) (.cons (.tmp rfl) .nil)) (by first | exact hH0 | exact hH1 rfl | exact hH2 rfl rfl) rfl rfl) ?_
  refine gE2 ?_
  rfl
theorem awc {ts : List (List Rat)} {r e : Nat} (tw : Tw ts r) {a b c d : List Rat} (ha : Nm ts.length e a) (hb : Nm ts.length e b) (hc : Nm ts.length e c) (hd : Nm ts.length e d) (he : 2 * (e + e + kB r ts.length) <= lm ts.length) :
  FnC prog 68 [aez ts,ptA a b,ptA c d] (.tup [nA (sh ts.length (be1 ts (dec ts.length a) (dec ts.length b) (dec ts.length c) (dec ts.length d))),.v .nilIface]) := by
 refine gF0 func68 ?_
 refine gc (Con.subA (.cons (.refl _) (.cons (.refl _) (.cons (.refl _) (.cons (Sub.fn0 _) .nil)))) (apr tw ha hb hc hd (by omega) _ _ (a07 tw ha hb hc hd he))) ?_
 refine gE2 ?_
 first | rfl | (simp; done)
theorem auf {ts : List (List Rat)} {r e : Nat} (tw : Tw ts r) {a b c d : List Rat} (ha : Nm ts.length e a) (hb : Nm ts.length e b) (hc : Nm ts.length e c) (hd : Nm ts.length e d) (he : 2 * (e + e + kB r ts.length) <= lm ts.length) :
  FnC prog 168 [aez ts,nA a,nA b,ptA c d] (.tup [ptA (sh ts.length (a1e ts (dec ts.length a) (dec ts.length b) (dec ts.length c) (dec ts.length d))) (sh ts.length (a2b ts (dec ts.length a) (dec ts.length b) (dec ts.length c) (dec ts.length d))),.v .nilIface]) := by
 refine gF0 func168 ?_
 refine gc (akm (e := e) tw [a,b,c,d] (by simp only [mem_cons,not_mem_nil,or_false]; rintro x (rfl | rfl | rfl | rfl) <;> assumption) (by omega) (by simp)) ?_
 refine gC (fun ht22 => ?_) (fun ht22 => ?_) (st1 := (3,0))
 ·cases ht22
 ·refine gt (aam (Con.rekeyB 27 rfl rfl rfl rfl (agn tw ha hc (by omega))) (.cons (.tmp rfl) (.cons (.tmp rfl) (.cons (.tmp rfl) .nil))) (by first | exact hH0 | exact hH1 rfl | exact hH2 rfl rfl) rfl rfl) ?_
  refine gt (aam (Con.rekeyB 27 rfl rfl rfl rfl (agn tw hb hd (by omega))) (.cons (.tmp rfl) (.cons (.tmp rfl) (.cons (.tmp rfl) .nil))) (by first | exact hH0 | exact hH1 rfl | exact hH2 rfl rfl) rfl rfl) ?_
  refine gt (aam (Con.rekeyB 27 rfl rfl rfl rfl (ar5 ▸ a20 tw (ha.mul tw rfl hc) (hb.mul tw rfl hd) (by omega))) (.cons (.tmp rfl) (.cons (.tmp rfl) (.cons (.tmp rfl) .nil))) (by first | exact hH0 | exact hH1 rfl | exact hH2 rfl rfl) rfl rfl) ?_
  refine gt (aam (Con.rekeyB 27 rfl rfl rfl rfl (agn tw hb hc (by omega))) (.cons (.tmp rfl) (.cons (.tmp rfl) (.cons (.tmp rfl) .nil))) (by first | exact hH0 | exact hH1 rfl | exact hH2 rfl rfl) rfl rfl) ?_
  refine gt (aam (Con.rekeyB 27 rfl rfl rfl rfl (agn tw ha hd (by omega))) (.cons (.tmp rfl) (.cons (.tmp rfl) (.cons (.tmp rfl) .nil))) (by first | exact hH0 | exact hH1 rfl | exact hH2 rfl rfl) rfl rfl) ?_
  refine gt (aam (Con.rekeyB 27 rfl rfl rfl rfl (ats ▸ akc tw (hb.mul tw rfl hc) (ha.mul tw rfl hd) (by omega))) (.cons (.tmp rfl) (.cons (.tmp rfl) (.cons (.tmp rfl) .nil))) (by first | exact hH0 | exact hH1 rfl | exact hH2 rfl rfl) rfl rfl) ?_
  refine gt (aam (Con.rekeyB 27 rfl rfl rfl rfl (apc _ _ _)) (.cons (.tmp rfl) (.cons (.tmp rfl) .nil)) (by first | exact hH0 | exact hH1 rfl | exact hH2 rfl rfl) rfl rfl) ?_
  refine gD ?_
  refine gE2 ?_
  rfl
theorem awd {ts : List (List Rat)} {r e : Nat} (tw : Tw ts r) {a b c d : List Rat} (ha : Nm ts.length e a) (hb : Nm ts.length e b) (hc : Nm ts.length e c) (hd : Nm ts.length e d) (he : 2 * e <= lm ts.length) :
  FnC prog 170 [aez ts,ptA a b,ptA c d] (.tup [ptA (sh ts.length (T.add ts.length (dec ts.length a) (dec ts.length c))) (sh ts.length (T.add ts.length (dec ts.length b) (dec ts.length d))),.v .nilIface]) := by
 refine gF0 func170 ?_
 refine gc (aht (e := e) tw [(a,b),(c,d)] (by simp only [mem_cons,not_mem_nil,or_false]; rintro p (rfl | rfl); exact ⟨ha,hb⟩; exact ⟨hc,hd⟩) (by omega) (by simp)) ?_
 refine gC (fun ht16 => ?_) (fun ht16 => ?_) (st1 := (3,0))
 ·cases ht16
 ·refine gt (aam (Con.rekeyB 21 rfl rfl rfl rfl (akc tw ha hc (by omega))) (.cons (.tmp rfl) (.cons (.tmp rfl) (.cons (.tmp rfl) .nil))) (by first | exact hH0 | exact hH1 rfl | exact hH2 rfl rfl) rfl rfl) ?_
  refine gt (aam (Con.rekeyB 21 rfl rfl rfl rfl (akc tw hb hd (by omega))) (.cons (.tmp rfl) (.cons (.tmp rfl) (.cons (.tmp rfl) .nil))) (by first | exact hH0 | exact hH1 rfl | exact hH2 rfl rfl) rfl rfl) ?_
  refine gt (aam (Con.rekeyB 21 rfl rfl rfl rfl (apc _ _ _)) (.cons (.tmp rfl) (.cons (.tmp rfl) .nil)) (by first | exact hH0 | exact hH1 rfl | exact hH2 rfl rfl) rfl rfl) ?_
  refine gD ?_
  refine gE2 ?_
  rfl
end Go.Lw
namespace Go.Lw
open Go.Proofs
theorem alh (rs : List (List Rt)) (r e : Nat) (h : TR rs r) (xs : List (List Rt)) (hx : ∀ a ∈ xs, NR a e) (he : e <= lm rs.length) (hl : xs.length <= 1000) : FnC prog 47 [agt rs, .lst 1 (xs.map nR)] (i64 (aal rs xs)) := by
 refine gF0 func47 ?_
 refine gc (aok rs r h) ?_
 refine gC (fun ht13 => ?_) (fun ht13 => ?_)
 ·have h1 := ah0 ht13
  refine gE1 ?_
  rw [anb h1]
 ·have h1 := ahu ht13
  refine gl ?_
  refine gL1 [2,15,16] [2] (fun (i : Nat) => [(17,some (i64 i))]) (fun _ => []) (fun i => i <= xs.length /\ ∀ x ∈ xs.take i,afp rs.length x = 0) (fun i => xs.length - i) 0 ⟨zero_le _,fun x hx => by simp at hx⟩ ?_
  rintro i ⟨hi,hj⟩ K1 hK1
  refine gC (fun ht18 => ?_) (fun ht18 => ?_)
  ·have hin : i < xs.length := by simpa [aab] using ht18
   obtain ⟨a,ha⟩ := adg hin
   have hok := hx a (mem_of_getElem? ha)
   have hone : aal rs [a] = afp rs.length a := ar2 h1
   refine gi (aap ha) ?_
   refine gc (a0m rs r h a e hok he) ?_
   refine gC (fun ht28 => ?_) (fun ht28 => ?_)
   ·have h2 := ah0 ht28
    refine gE1 ?_
    rw [hone] at h2 ⊢; rw [anq h1 ha hj h2]
   ·have h2 := ahu ht28
    rw [hone] at h2
    refine ga abl ?_
    exact gK1 hK1 (i + 1) ⟨hin,fun x hx => by rw [aah ha] at hx; rcases List.mem_append.1 hx with h9 | h9; exact hj x h9; (rw [List.mem_singleton.1 h9]; exact h2)⟩
  ·have hin : i = xs.length := by have : xs.length <= i := (by simpa [aab] using ht18); omega
   subst hin
   rw [take_length] at hj
   refine gE1 ?_
   rw [ae7 h1 hj]; rfl
theorem agz {ts : List (List Rat)} {r e f : Nat} (tw : Tw ts r) {a b : List Rat} (ha : Nm ts.length e a) (hb : Nm ts.length f b) (he : e + f <= lm ts.length) : FnC prog 48 [aez ts, nA a, nA b] (nA (sh ts.length (T.add ts.length (dec ts.length a) (dec ts.length b)))) := by
 refine gF0 func48 ?_
 refine gc (bfg tw ha hb he) ?_
 refine gE1 ?_
 first | rfl | (simp; done)
theorem anw {ts : List (List Rat)} {r e f : Nat} (tw : Tw ts r) {a b : List Rat} (ha : Nm ts.length e a) (hb : Nm ts.length f b) (he : e + f <= lm ts.length) : FnC prog 83 [aez ts, nA a, nA b] (nA (sh ts.length (T.add ts.length (dec ts.length a) (T.neg ts.length (dec ts.length b))))) := by
 refine gF0 func83 ?_
 refine gc (bhc tw ha hb he) ?_
 refine gE1 ?_
 first | rfl | (simp; done)
theorem adn {ts : List (List Rat)} {r e f : Nat} (tw : Tw ts r) {a b : List Rat} (ha : Nm ts.length e a) (hb : Nm ts.length f b) (he : e + f <= lm ts.length) : FnC prog 84 [aez ts, nA a, nA b] (nA (sh ts.length (T.mul (aaq ts) ts.length (dec ts.length a) (dec ts.length b)))) := by
 refine gF0 func84 ?_
 refine gc (bjc tw ha hb he) ?_
 refine gE1 ?_
 first | rfl | (simp; done)
theorem a0a {ts : List (List Rat)} {r e : Nat} (tw : Tw ts r) {a : List Rat} (ha : Nm ts.length e a) (he : e <= lm ts.length) : FnC prog 53 [aez ts, nA a] (i64 (T.sgn (aaq ts) ts.length (dec ts.length a))) := by
 refine gF0 func53 ?_
 refine gc (bd0 tw ha he) ?_
 refine gE1 ?_
 first | rfl | (simp; done)
theorem apw {ts : List (List Rat)} {r e f : Nat} (tw : Tw ts r) {a b : List Rat} (ha : Nm ts.length e a) (hb : Nm ts.length f b) (he : e + f + 1 <= lm ts.length) : FnC prog 17 [aez ts, nA a, nA b] (bl (eqT ts (dec ts.length a) (dec ts.length b))) := by
 refine gF0 func17 ?_
 refine gc (biq tw ha hb he) ?_
 refine gE1 ?_
 exact congrArg bl (bc4 _)
theorem a3s {ts : List (List Rat)} {r e : Nat} (tw : Tw ts r) {a b c d : List Rat} (ha : Nm ts.length e a) (hb : Nm ts.length e b) (hc : Nm ts.length e c) (hd : Nm ts.length e d) (he : 2 * (e + e + kB r ts.length) <= lm ts.length) : FnC prog 85 [aez ts, ptA a b, ptA c d] (nA (sh ts.length (be1 ts (dec ts.length a) (dec ts.length b) (dec ts.length c) (dec ts.length d)))) := by
 refine gF0 func85 ?_
 refine gc (adn tw ha hc (by omega)) ?_
 refine gc (adn tw hb hd (by omega)) ?_
 refine gc (ats ▸ agz tw (ha.mul tw rfl hc) (hb.mul tw rfl hd) (by omega)) ?_
 refine gD ?_
 refine gE1 ?_
 first | rfl | (simp; done)
theorem a5n {ts : List (List Rat)} {r e : Nat} (tw : Tw ts r) {a b c d : List Rat} (ha : Nm ts.length e a) (hb : Nm ts.length e b) (hc : Nm ts.length e c) (hd : Nm ts.length e d) (he : 2 * e <= lm ts.length) : FnC prog 183 [aez ts, ptA a b, ptA c d] (ptA (sh ts.length (T.add ts.length (dec ts.length a) (dec ts.length c))) (sh ts.length (T.add ts.length (dec ts.length b) (dec ts.length d)))) := by
 refine gF0 func183 ?_
 refine gc (agz tw ha hc (by omega)) ?_
 refine gc (agz tw hb hd (by omega)) ?_
 refine gD ?_
 refine gE1 ?_
 first | rfl | (simp; done)
theorem az9 {ts : List (List Rat)} {r e : Nat} (tw : Tw ts r) {a b c d : List Rat} (ha : Nm ts.length e a) (hb : Nm ts.length e b) (hc : Nm ts.length e c) (hd : Nm ts.length e d) (he : 2 * (e + e + kB r ts.length) <= lm ts.length) : FnC prog 184 [aez ts, nA a, nA b, ptA c d] (ptA (sh ts.length (a1e ts (dec ts.length a) (dec ts.length b) (dec ts.length c) (dec ts.length d))) (sh ts.length (a2b ts (dec ts.length a) (dec ts.length b) (dec ts.length c) (dec ts.length d)))) := by
 refine gF0 func184 ?_
 refine gc (adn tw ha hc (by omega)) ?_
 refine gc (adn tw hb hd (by omega)) ?_
 refine gc (ar5 ▸ anw tw (ha.mul tw rfl hc) (hb.mul tw rfl hd) (by omega)) ?_
 refine gc (adn tw hb hc (by omega)) ?_
 refine gc (adn tw ha hd (by omega)) ?_
 refine gc (ats ▸ agz tw (hb.mul tw rfl hc) (ha.mul tw rfl hd) (by omega)) ?_
 refine gD ?_
 refine gE1 ?_
 first | rfl | (simp; done)
end Go.Lw
namespace Go.Lw
open Go.Proofs
theorem bk5 {b : List Rt} {rs : List (List Rt)} {e : Nat} (hb : NR b e) (hn : afp rs.length b = 0) (h5 : rs.length <= 5) : Nm rs.length e (lq b) := ⟨h5,(hb.num hn).2,hb.cb⟩
theorem ao6 (x y : Rt) (hx : x.ok) (hy : y.ok) (qx : Qs x.q) (qy : Qs y.q) : FnC prog 169 [x.av, y.av] (ptA (sh 0 (x.q : Rat)) (sh 0 (y.q : Rat))) := by
 refine gF0 func169 ?_
 refine gc (ait x hx qx) ?_
 refine gc (ait y hy qy) ?_
 refine gD ?_
 refine gE1 ?_
 first | rfl | (simp; done)
theorem aua (x y : Rt) (hx : x.ok) (hy : y.ok) (qx : Qs x.q) (qy : Qs y.q) : FnC prog 182 [x.av, y.av] (ptA (sh 0 (x.q : Rat)) (sh 0 (y.q : Rat))) := by
 refine gF0 func182 ?_
 refine gc (anm x hx qx) ?_
 refine gc (anm y hy qy) ?_
 refine gD ?_
 refine gE1 ?_
 first | rfl | (simp; done)
theorem ajj (rs : List (List Rt)) (r e : Nat) (h : TR rs r) (xs : List (List Rt)) (hx : ∀ a ∈ xs, NR a e) (he : e <= lm rs.length) (hl : xs.length <= 1000) : FnC prog 167 [agt rs, .lst 1 (xs.map nR)] (afe (aal rs xs)) := by
 refine gF0 func167 ?_
 refine gc (afc rs r h) ?_
 refine gC (fun ht13 => ?_) (fun ht13 => ?_)
 ·have h1 := acy ht13
  refine gE1 ?_
  rw [anb h1]
 ·have h1 := ach ht13
  refine gl ?_
  refine gL1 [2,15,16] [2] (fun (i : Nat) => [(17,some (i64 i))]) (fun _ => []) (fun i => i <= xs.length /\ ∀ x ∈ xs.take i,afp rs.length x = 0) (fun i => xs.length - i) 0 ⟨zero_le _,fun x hx => by simp at hx⟩ ?_
  rintro i ⟨hi,hj⟩ K1 hK1
  refine gC (fun ht18 => ?_) (fun ht18 => ?_)
  ·have hin : i < xs.length := by simpa [aab] using ht18
   obtain ⟨a,ha⟩ := adg hin
   have hok := hx a (mem_of_getElem? ha)
   have hone : aal rs [a] = afp rs.length a := ar2 h1
   refine gi (aap ha) ?_
   refine gc (ajw rs r h a e hok he) ?_
   refine gC (fun ht28 => ?_) (fun ht28 => ?_)
   ·have h2 := acy ht28
    refine gE1 ?_
    rw [hone] at h2 ⊢; rw [anq h1 ha hj h2]
   ·have h2 := ach ht28
    rw [hone] at h2
    refine ga abl ?_
    exact gK1 hK1 (i + 1) ⟨hin,fun x hx => by rw [aah ha] at hx; rcases List.mem_append.1 hx with h9 | h9; exact hj x h9; (rw [List.mem_singleton.1 h9]; exact h2)⟩
  ·have hin : i = xs.length := by have : xs.length <= i := (by simpa [aab] using ht18); omega
   subst hin
   rw [take_length] at hj
   refine gE1 ?_
   rw [ae7 h1 hj]; rfl
def whX (rs : List (List Rt)) (b : Pl) (x y : Rt) : List Rat := sh (llq rs).length (atX (llq rs) (dec (llq rs).length (lq b.c)) (dec (llq rs).length (lq b.s)) (dec (llq rs).length (lq b.x)) x.q y.q)
def whY (rs : List (List Rt)) (b : Pl) (x y : Rt) : List Rat := sh (llq rs).length (atY (llq rs) (dec (llq rs).length (lq b.c)) (dec (llq rs).length (lq b.s)) (dec (llq rs).length (lq b.y)) x.q y.q)
theorem asc (rs : List (List Rt)) : (llq rs).length = rs.length:=by simp [llq]
structure PlN (rs : List (List Rt)) (b : Pl) (e : Nat) : Prop where
  c : Nm (llq rs).length e (lq b.c)
  s : Nm (llq rs).length e (lq b.s)
  x : Nm (llq rs).length e (lq b.x)
  y : Nm (llq rs).length e (lq b.y)
  av : b.av = .agg [nA (lq b.c),nA (lq b.s),nA (lq b.x),nA (lq b.y)]
theorem a17 {rs : List (List Rt)} {b : Pl} {e r : Nat} (h : TR rs r) (hb : ∀ x ∈ b.l, NR x e) (hc : aal rs b.l = 0) : PlN rs b e := by
 obtain ⟨h1,h2⟩ := adk hc
 obtain ⟨tw,_⟩ := acd h h1
 have h5 : rs.length <= 5:=by have := tw.five; rwa [asc] at this
 have k : ∀ x ∈ b.l, Nm (llq rs).length e (lq x) /\ nR x = nA (lq x) := fun x hx => by
  rw [asc]
  exact ⟨bk5 (hb x hx) (h2 x hx) h5,((hb x hx).num (h2 x hx)).1⟩
 have k1 := k b.c (by simp [Pl.l])
 have k2 := k b.s (by simp [Pl.l])
 have k3 := k b.x (by simp [Pl.l])
 have k4 := k b.y (by simp [Pl.l])
 exact ⟨k1.1,k2.1,k3.1,k4.1,by unfold Pl.av; rw [k1.2,k2.2,k3.2,k4.2]⟩
theorem av4 (rs : List (List Rt)) (r e : Nat) (h : TR rs r) (h1 : aev rs = 0) (b : Pl) (hb : ∀ x ∈ b.l, NR x e) (x y : Rt) (hx : x.ok) (hy : y.ok) (qx : Qb e x.q) (qy : Qb e y.q) (he : 8 * e + 4 * kB r rs.length + 4 <= lm rs.length) :
  FnC prog 71 [agt rs,b.av,x.av,y.av] (.tup [ptA (if aal rs b.l = 0 then whX rs b x y else []) (if aal rs b.l = 0 then whY rs b x y else []),afe (aal rs b.l)]) := by
 have hlm := ai3 rs.length
 have hbl : [b.c,b.s,b.x,b.y] = b.l := rfl
 refine gF0 func71 ?_
 refine gc (ajj rs r e h b.l hb (by omega) (by simp [Pl.l])) ?_
 refine gC (fun ht25 => ?_) (fun ht25 => ?_)
 ·have h2 := acy ht25
  refine gR ?_
  exact acl (by rw [if_neg h2,if_neg h2]; exact Sub.tup (.cons (Sub.agg (.cons (.nil _ _ _) (.cons (.nil _ _ _) .nil)) rfl) (.cons (.refl _) .nil)))
 ·have h2 := ach ht25
  obtain ⟨tw,etw⟩ := acd h h1
  have pn := a17 h hb h2
  have ec : nR b.c = nA (lq b.c):=by have := pn.av; unfold Pl.av at this; simp only [AV.agg.injEq,List.cons.injEq] at this; exact this.1
  have es : nR b.s = nA (lq b.s):=by have := pn.av; unfold Pl.av at this; simp only [AV.agg.injEq,List.cons.injEq] at this; exact this.2.1
  have ex : nR b.x = nA (lq b.x):=by have := pn.av; unfold Pl.av at this; simp only [AV.agg.injEq,List.cons.injEq] at this; exact this.2.2.1
  have ey : nR b.y = nA (lq b.y):=by have := pn.av; unfold Pl.av at this; simp only [AV.agg.injEq,List.cons.injEq] at this; exact this.2.2.2.1
  have etl : (AV.lst 1 (rs.map nR)) = .lst 1 ((llq rs).map nA) := aj3 etw
  rw [ec,es,ex,ey,etl]
  rw [<- asc rs] at he
  have nx := Nm.ofQ pn.c.five (Cb.one qx)
  have ny := Nm.ofQ pn.c.five (Cb.one qy)
  have nX := ar1 tw pn.c pn.s nx ny
  have nY := aq5 tw pn.c pn.s nx ny
  have z1 : e <= 2 * (e + e + kB r (llq rs).length) + 1:=by omega
  have z2 : 2 * (2 * (e + e + kB r (llq rs).length) + 1) <= lm (llq rs).length := a2f he
  have hadd := awd tw nX nY (pn.x.mono z1) (pn.y.mono z1) z2
  have hlm2 := ai3 (llq rs).length
  refine gc (ao6 x y hx hy (qx.qs (by omega)) (qy.qs (by omega))) ?_
  refine gc (auf tw pn.c pn.s nx ny (by omega)) ?_
  refine gD ?_
  refine gC (fun ht41 => ?_) (fun ht41 => ?_) (st1 := (6,0))
  ·cases ht41
  ·refine gc hadd ?_
   refine gE2 ?_
   rw [if_pos h2,if_pos h2,h2,a42,a3r]; rfl
end Go.Lw
namespace Go.Lw
open Go.Proofs
section
variable {ts : List (List Rat)} {u k : Nat} {a b a2 b2 : List Rat} {x y x2 y2 : Et ts} {w v w' v' w2 v2 w3 v3 : Nat}
theorem an5 (c : Ct ts u k) (h : w + v + (w' + v') <= 10000) : w * u + v * k + (w' * u + v' * k) + 1 <= lm ts.length := by
 have h1 := bb5 c (w := w + w') (v := v + v') (m := 10000) (by omega)
 have h2 := amv ts.length
 rw [ax8]; omega
theorem a52 (c : Ct ts u k) (h : w + v <= 10000) : w * u + v * k <= lm ts.length := bmx c h
theorem bgi (c : Ct ts u k) {R : Nat} (h : eB R ts.length <= k) : 2 * (2500 * 1000000 + 2500 * 1000000 + kB R ts.length) <= lm ts.length := by
 have h1 := c.kk h
 have h2 := amv ts.length
 omega
theorem a8g [c : Ct ts u k] [ha : Zl ts u k a x w v] [hb : Zl ts u k b y w' v'] (h : w + v + (w' + v') <= 10000 := by decide) : FnC prog 231 [aez ts, nA a, nA b] (.tup [nA (sX (x + y)), .v .nilIface]) := by
 obtain ⟨R,tw,hk⟩ := c.ex
 have h0 := an5 c h
 have h1 := a37 tw ha.nm hb.nm (by omega)
 rw [ha.eq,hb.eq] at h1
 exact h1
theorem bgm [c : Ct ts u k] [ha : Zl ts u k a x w v] [hb : Zl ts u k b y w' v'] (h : w + v + (w' + v') <= 10000 := by decide) : FnC prog 163 [aez ts, nA a, nA b] (.tup [nA (sX (x - y)), .v .nilIface]) := by
 obtain ⟨R,tw,hk⟩ := c.ex
 have h0 := an5 c h
 have h1 := a4p tw ha.nm hb.nm (by omega)
 rw [ha.eq,hb.eq] at h1
 exact h1
theorem bbn [c : Ct ts u k] [ha : Zl ts u k a x w v] [hb : Zl ts u k b y w' v'] (h : w + v + (w' + v') <= 10000 := by decide) : FnC prog 164 [aez ts, nA a, nA b] (.tup [nA (sX (x * y)), .v .nilIface]) := by
 obtain ⟨R,tw,hk⟩ := c.ex
 have h0 := an5 c h
 have h1 := a1j tw ha.nm hb.nm (by omega)
 rw [ha.eq,hb.eq] at h1
 exact h1
theorem an0 [c : Ct ts u k] [ha : Zl ts u k a x w v] [hb : Zl ts u k b y w' v'] (h : w + v + (w' + v') <= 10000 := by decide) : FnC prog 48 [aez ts, nA a, nA b] (nA (sX (x + y))) := by
 obtain ⟨R,tw,hk⟩ := c.ex
 have h0 := an5 c h
 have h1 := agz tw ha.nm hb.nm (by omega)
 rw [ha.eq,hb.eq] at h1
 exact h1
theorem a8e [c : Ct ts u k] [ha : Zl ts u k a x w v] [hb : Zl ts u k b y w' v'] (h : w + v + (w' + v') <= 10000 := by decide) : FnC prog 83 [aez ts, nA a, nA b] (nA (sX (x - y))) := by
 obtain ⟨R,tw,hk⟩ := c.ex
 have h0 := an5 c h
 have h1 := anw tw ha.nm hb.nm (by omega)
 rw [ha.eq,hb.eq] at h1
 exact h1
theorem arb [c : Ct ts u k] [ha : Zl ts u k a x w v] [hb : Zl ts u k b y w' v'] (h : w + v + (w' + v') <= 10000 := by decide) : FnC prog 84 [aez ts, nA a, nA b] (nA (sX (x * y))) := by
 obtain ⟨R,tw,hk⟩ := c.ex
 have h0 := an5 c h
 have h1 := adn tw ha.nm hb.nm (by omega)
 rw [ha.eq,hb.eq] at h1
 exact h1
theorem anh [c : Ct ts u k] [ha : Zl ts u k a x w v] [hb : Zl ts u k b y w' v'] (h : w + v + (w' + v') <= 10000 := by decide) : FnC prog 17 [aez ts, nA a, nA b] (bl (eqE x y)) := by
 obtain ⟨R,tw,hk⟩ := c.ex
 have h0 := an5 c h
 have h1 := apw tw ha.nm hb.nm (by omega)
 rw [ha.eq,hb.eq] at h1
 exact h1
theorem bmc [c : Ct ts u k] [ha : Zl ts u k a x w v] (h : w + v <= 10000 := by decide) : FnC prog 148 [aez ts, nA a] (.tup [nA (sX (-x)), .v .nilIface]) := by
 obtain ⟨R,tw,hk⟩ := c.ex
 have h0 := a52 c h
 have h1 := a1o tw ha.nm (by omega)
 rw [ha.eq] at h1
 exact h1
theorem bih [c : Ct ts u k] [ha : Zl ts u k a x w v] (h : w + v <= 10000 := by decide) : FnC prog 205 [aez ts, nA a] (.tup [i64 (sgE x), .v .nilIface]) := by
 obtain ⟨R,tw,hk⟩ := c.ex
 have h0 := a52 c h
 have h1 := a21 tw ha.nm (by omega)
 rw [ha.eq] at h1
 exact h1
theorem bdx [c : Ct ts u k] [ha : Zl ts u k a x w v] (h : w + v <= 10000 := by decide) : FnC prog 53 [aez ts, nA a] (i64 (sgE x)) := by
 obtain ⟨R,tw,hk⟩ := c.ex
 have h0 := a52 c h
 have h1 := a0a tw ha.nm (by omega)
 rw [ha.eq] at h1
 exact h1
theorem be4 [c : Ct ts u k] [ha : Zl ts u k a x w v] [hb : Zl ts u k b y w' v'] [ha2 : Zl ts u k a2 x2 w2 v2] [hb2 : Zl ts u k b2 y2 w3 v3] (h : w + v + (w' + v') + (w2 + v2 + (w3 + v3)) <= 2500 := by decide) :
  FnC prog 85 [aez ts,ptA a b,ptA a2 b2] (nA (sX (dotE x y x2 y2))) := by
 obtain ⟨R,tw,hk⟩ := c.ex
 have h0 := bgi c hk
 have h1 := a3s (e := 2500 * 1000000) tw (ha.up c (by omega)) (hb.up c (by omega)) (ha2.up c (by omega)) (hb2.up c (by omega)) (by omega)
 rw [ha.eq,hb.eq,ha2.eq,hb2.eq] at h1
 exact h1
theorem bh2 [c : Ct ts u k] [ha : Zl ts u k a x w v] [hb : Zl ts u k b y w' v'] [ha2 : Zl ts u k a2 x2 w2 v2] [hb2 : Zl ts u k b2 y2 w3 v3] (h : w + v + (w' + v') + (w2 + v2 + (w3 + v3)) <= 2500 := by decide) :
  FnC prog 68 [aez ts,ptA a b,ptA a2 b2] (.tup [nA (sX (dotE x y x2 y2)),.v .nilIface]) := by
 obtain ⟨R,tw,hk⟩ := c.ex
 have h0 := bgi c hk
 have h1 := awc (e := 2500 * 1000000) tw (ha.up c (by omega)) (hb.up c (by omega)) (ha2.up c (by omega)) (hb2.up c (by omega)) (by omega)
 rw [ha.eq,hb.eq,ha2.eq,hb2.eq] at h1
 exact h1
def atXE (c s X : Et ts) (p q : Rat) : Et ts := (c * qE p - s * qE q) + X
def atYE (c s Y : Et ts) (p q : Rat) : Et ts := (s * qE p + c * qE q) + Y
instance Zu.atXE [c : Ct ts u k] {x y z : Et ts} {p q : Rat} {w1 v1 w2 v2 w3 v3 w4 w5 : Nat} [Zu u k x w1 v1] [Zu u k y w2 v2] [Zu u k z w3 v3] [Qz u p w4] [Qz u q w5] : Zu u k (atXE x y z p q) (w1 + w4 + (w2 + w5) + w3) (v1 + 0 + 1 + (v2 + 0 + 1) + 1 + v3 + 1) :=
  (inferInstance : Zu u k ((x * Lw.qE p - y * Lw.qE q) + z) _ _)
instance Zu.atYE [c : Ct ts u k] {x y z : Et ts} {p q : Rat} {w1 v1 w2 v2 w3 v3 w4 w5 : Nat} [Zu u k x w1 v1] [Zu u k y w2 v2] [Zu u k z w3 v3] [Qz u p w4] [Qz u q w5] : Zu u k (atYE x y z p q) (w2 + w4 + (w1 + w5) + w3) (v2 + 0 + 1 + (v1 + 0 + 1) + 1 + v3 + 1) :=
  (inferInstance : Zu u k ((y * Lw.qE p + x * Lw.qE q) + z) _ _)
end
end Go.Lw
namespace Go.Lw
open Go.Proofs
def u8 (n : Nat) : AV := .v (.int .u8 n)
theorem av1 {p q : Bool} {a b : Nat} {c : Nat} (hp : p = decide (a <= c)) (hq : q = decide (c <= b)) : cond p q false = decide (a <= c /\ c <= b) := by
 subst hp; subst hq
 by_cases h : a <= c
 ·simp [h]
 ·simp [h]
theorem bbe (c k : Nat) : aab .geq (c : Int) (k : Int) = decide (k <= c):=by simp only [aab,decide_eq_decide]; omega
theorem bb7 (c k : Nat) : aab .leq (c : Int) (k : Int) = decide (c <= k):=by simp only [aab,decide_eq_decide]; omega
theorem a69 (c : Nat) : cond (cond (aab .geq (c : Int) 97) (aab .leq (c : Int) 122) false) true (cond (aab .geq (c : Int) 65) (aab .leq (c : Int) 90) false) = aek c := by
 have e1 : cond (aab .geq (c : Int) 97) (aab .leq (c : Int) 122) false = decide (97 <= c /\ c <= 122) := av1 (bbe c 97) (bb7 c 122)
 have e2 : cond (aab .geq (c : Int) 65) (aab .leq (c : Int) 90) false = decide (65 <= c /\ c <= 90) := av1 (bbe c 65) (bb7 c 90)
 rw [e1,e2]
 unfold aek
 cases decide (97 <= c /\ c <= 122) <;> rfl
theorem bdv (c : Nat) : cond (aab .geq (c : Int) 48) (aab .leq (c : Int) 57) false = atg c := av1 (bbe c 48) (bb7 c 57)
theorem bfp (c : Nat) : cond (cond (aek c) true (atg c)) true (aab .eql (c : Int) 95) = ar3 c := by
 unfold ar3
 have : aab .eql (c : Int) 95 = decide (c = 95) := by
  rw [Bool.eq_iff_iff]; simp only [aab,beq_iff_eq,decide_eq_true_eq]; omega
 rw [this]
 cases aek c <;> cases atg c <;> rfl
theorem ajg (c : Nat) : FnC prog 372 [u8 c] (bl (aek c)) := by
 refine gF0 func372 ?_
 refine gE1 ?_
 exact congrArg bl (a69 c)
theorem ar0 (c : Nat) : FnC prog 410 [u8 c] (bl (atg c)) := by
 refine gF0 func410 ?_
 refine gE1 ?_
 exact congrArg bl (bdv c)
theorem aty (c : Nat) : FnC prog 373 [u8 c] (bl (ar3 c)) := by
 refine gF0 func373 ?_
 refine gc (ajg c) ?_
 refine gcG (fun _ => (ar0 c)) ?_
 refine gE1 ?_
 exact congrArg bl (bfp c)
theorem at4 (s : ByteArray) (hs : s.size <= 281474976710656) : FnC prog 300 [.v (.string s)] (i64 (afy s)) := by
 refine gF0 func300 ?_
 refine gs (abn rfl rfl rfl (fun h => ane (.opt rfl (o1 h)) (.const _) T9 rfl (by omega) (by have := a3w h; omega) rfl)) ?_
 refine gcG (fun _ => (ajg (ahr s 0))) ?_
 refine gC (fun ht11 => ?_) (fun ht11 => ?_)
 ·have h0 : afy s = 0 := a2v ht11
  refine gE1 ?_
  rw [h0]; rfl
 ·obtain ⟨h0, h1⟩ := a23 ht11
  refine gL1 [0] [] (fun (n : Nat) => [(3,some (i64 n))]) (fun _ => []) (fun n => 1 <= n /\ n <= s.size /\ amy s 1 (s.size - 1) = amy s n (s.size - n)) (fun n => s.size - n) 1 ⟨le_refl _,h0,rfl⟩ ?_
  rintro n ⟨hn1,hn,hw⟩ K1 hK1
  refine gs (abn rfl rfl rfl (fun h => ane (.opt rfl (o1 h)) (.opt rfl (o1 h)) T9 rfl (by omega) (by have := acr h; omega) rfl)) ?_
  refine gcG (fun _ => (aty (ahr s n))) ?_
  refine gC (fun ht21 => ?_) (fun ht21 => ?_)
  ·have h2 : n < s.size /\ ar3 (ahr s n) = true := a7q ht21
   refine ga abl ?_
   exact gK1 hK1 (n + 1) ⟨by omega,by omega,by rw [hw,show s.size - n = (s.size - (n + 1)) + 1 by omega]; simp only [amy,h2.2,if_true]⟩
  ·have h2 : n < s.size -> ar3 (ahr s n) = false := a2g ht21
   have h3 : afy s = n := by
    unfold afy
    rw [if_pos ⟨h0,h1⟩,hw]
    rcases lt_or_ge n s.size with h | h
    ·rw [show s.size - n = (s.size - (n + 1)) + 1 by omega]
     simp only [amy,h2 h,Bool.false_eq_true,if_false]
    ·rw [show s.size - n = 0 by omega]; rfl
   refine gE1 ?_
   rw [h3]
theorem ae1 (s : ByteArray) (hs : s.size <= 281474976710656) : FnC prog 198 [.v (.string s)] (bl (asa s)) := by
 refine gF0 func198 ?_
 refine gc (at4 s hs) ?_
 refine gE1 ?_
 exact congrArg bl (a1t s)
end Go.Lw
namespace Go.Lw
open Go.Proofs
theorem aff (i : Int) (n : Nat) : FnC prog 302 [i64 i, i64 n] (bl (inB i n)) := by
 refine gF0 func302 ?_
 refine gE1 ?_
 exact congrArg bl (a6t i n)
theorem ap5 (bs : List Bd) (hbs : ∀ b ∈ bs, b.ok) (hl : bs.length <= 281474976710656) : FnC prog 199 [.lst 2 (bs.map Bd.av)] (afe (afo bs.length (bdE bs))) := by
 refine gF0 func199 ?_
 refine gl ?_
 refine gL1 [0,11,12] [] (fun (i : Nat) => [(13,some (i64 i))]) (fun _ => []) (fun i => i <= bs.length /\ ∀ j,j < i -> bdE bs j = 0) (fun i => bs.length - i) 0 ⟨zero_le _,fun j h => by omega⟩ ?_
 rintro i ⟨hi,hj⟩ K1 hK1
 refine gC (fun ht14 => ?_) (fun ht14 => ?_)
 ·have hin := acr ht14
  obtain ⟨b,hb⟩ := adg hin
  have hbd : bs.getD i default = b := abc hb
  have hbo := hbs b (mem_of_getElem? hb)
  have hbdup := aj9 Bd.name hb
  refine gi (aap hb) ?_
  refine gc (ae1 b.name hbo.name) ?_
  refine gC (fun ht21 => ?_) (fun ht21 => ?_)
  ·have h1 := ajr ht21
   have e1 : bdE bs i = 5:=by unfold bdE; rw [hbd,if_pos h1]
   refine gE1 ?_
   rw [abt hin hj (by rw [e1]; decide),e1]; rfl
  ·have h1 := aj0 ht21
   refine gs (aan (.tmp rfl) (.none _) (.some _ (.tmp rfl) (by omega)) T22 rfl T118 rfl (by omega) (by simp only [length_map]; omega) rfl) ?_
   refine ge rfl ?_
   refine gL1 [0,3,4,11,12,13] [4] (fun (k : Nat) => [(25,some (.lst 2 ((bs.take i).map Bd.av))),(26,some (i64 i)),(27,some (i64 k))]) (fun _ => []) (fun k => k <= i /\ (bs.take k).any (fun y => eqS y.name b.name) = false) (fun k => i - k) 0 ⟨zero_le _,rfl⟩ ?_ (h1 := (.cons rfl (Sub.of (bja 2 Bd.av bs i)) (.cons rfl (Sub.int (by simp; omega)) (.k .nil))))
   rintro k ⟨hk,hd⟩ K2 hK2
   refine gC (fun ht28 => ?_) (fun ht28 => ?_)
   ·have hkn := acr ht28
    obtain ⟨y,hy'⟩ : ∃ y,(bs.take i)[k]? = some y := adg (by simp; omega)
    have hy := (aky hy').1
    refine gi (aap hy') ?_
    refine gC (fun ht35 => ?_) (fun ht35 => ?_)
    ·have h2 : eqS y.name b.name = true := ht35
     have e1 : bdE bs i = 6:=by unfold bdE; rw [hbd,if_neg (by rw [h1]; decide),if_pos (by rw [hbdup]; exact aow hy hkn h2)]
     refine gE1 ?_
     rw [abt hin hj (by rw [e1]; decide),e1]; rfl
    ·have h2 : eqS y.name b.name = false := ht35
     refine ga abl ?_
     exact gK1 hK2 (k + 1) ⟨hkn,akd hy hd h2⟩
   ·have hkn := aa8 hk ht28
    subst hkn
    have hnd : ¬ az2 (bs.map Bd.name) k = true:=by rw [hbdup,hd]; decide
    refine gl ?_
    refine gC (fun ht41 => ?_) (fun ht41 => ?_)
    ·have h3 : 8 < b.pts.length := aww ht41
     have e1 : bdE bs k = 4:=by unfold bdE; rw [hbd,if_neg (by rw [h1]; decide),if_neg hnd,if_pos h3]
     refine gE1 ?_
     rw [abt hin hj (by rw [e1]; decide),e1]; rfl
    ·have h3 : b.pts.length <= 8 := aul ht41
     have e1 : bdE bs k = afo b.pts.length (mkE b.pts):=by unfold bdE; rw [hbd,if_neg (by rw [h1]; decide),if_neg hnd,if_neg (by omega)]
     refine gl ?_
     refine gL1 [0,4,11,12,13,44,45] [4] (fun (p : Nat) => [(46,some (i64 p))]) (fun _ => []) (fun p => p <= b.pts.length /\ ∀ j,j < p -> mkE b.pts j = 0) (fun p => b.pts.length - p) 0 ⟨zero_le _,fun j h => by omega⟩ ?_
     rintro p ⟨hp,hpj⟩ K3 hK3
     refine gC (fun ht47 => ?_) (fun ht47 => ?_)
     ·have hpn := acr ht47
      obtain ⟨m,hm⟩ := adg hpn
      have hmd : b.pts.getD p default = m := abc hm
      have hmm := mem_of_getElem? hm
      have hmdup := aj9 Mk.name hm
      have hmo := hbo.pts m hmm
      refine gi (aap hm) ?_
      refine gc (ae1 m.name (hbo.names m hmm)) ?_
      refine gC (fun ht54 => ?_) (fun ht54 => ?_)
      ·have h4 := ajr ht54
       have e2 : mkE b.pts p = 5:=by unfold mkE; rw [hmd,if_pos h4]
       have e3 : bdE bs k = 5:=by rw [e1,abt hpn hpj (by rw [e2]; decide),e2]
       refine gE1 ?_
       rw [abt hin hj (by rw [e3]; decide),e3]; rfl
      ·have h4 := aj0 ht54
       refine gs (aan (.tmp rfl) (.none _) (.some _ (.tmp rfl) (by omega)) T116 rfl T120 rfl (by omega) (by simp only [length_map]; omega) rfl) ?_
       refine ge rfl ?_
       refine gL1 [0,4,8,11,12,13,44,45,46] [4,8] (fun (q : Nat) => [(59,some (.lst 7 ((b.pts.take p).map Mk.av))),(60,some (i64 p)),(61,some (i64 q))]) (fun _ => []) (fun q => q <= p /\ (b.pts.take q).any (fun y => eqS y.name m.name) = false) (fun q => p - q) 0 ⟨zero_le _,rfl⟩ ?_ (h1 := (.cons rfl (Sub.of (bja 7 Mk.av b.pts p)) (.cons rfl (Sub.int (by simp; omega)) (.k .nil))))
       rintro q ⟨hq,hqd⟩ K4 hK4
       refine gC (fun ht62 => ?_) (fun ht62 => ?_)
       ·have hqn := acr ht62
        obtain ⟨y,hy'⟩ : ∃ y,(b.pts.take p)[q]? = some y := adg (by simp; omega)
        have hy := (aky hy').1
        refine gi (aap hy') ?_
        refine gC (fun ht69 => ?_) (fun ht69 => ?_)
        ·have h5 : eqS y.name m.name = true := ht69
         have e2 : mkE b.pts p = 6:=by unfold mkE; rw [hmd,if_neg (by rw [h4]; decide),if_pos (by rw [hmdup]; exact aow hy hqn h5)]
         have e3 : bdE bs k = 6:=by rw [e1,abt hpn hpj (by rw [e2]; decide),e2]
         refine gE1 ?_
         rw [abt hin hj (by rw [e3]; decide),e3]; rfl
        ·have h5 : eqS y.name m.name = false := ht69
         refine ga abl ?_
         exact gK1 hK4 (q + 1) ⟨hqn,akd hy hqd h5⟩
       ·have hqn := aa8 hq ht62
        subst hqn
        have hmnd : ¬ az2 (b.pts.map Mk.name) q = true:=by rw [hmdup,hqd]; decide
        refine gc (ab2 m.x hmo.x) ?_
        refine gcG (fun _ => (ab2 m.y hmo.y)) ?_
        refine gC (fun ht81 => ?_) (fun ht81 => ?_)
        ·have h6 := bla ht81
         have e2 : mkE b.pts q = 3:=by unfold mkE; rw [hmd,if_neg (by rw [h4]; decide),if_neg hmnd,if_neg (by rintro ⟨g1,g2⟩; rcases h6 with g | g; (rw [g1] at g; cases g); (rw [g2] at g; cases g))]
         have e3 : bdE bs k = 3:=by rw [e1,abt hpn hpj (by rw [e2]; decide),e2]
         refine gE1 ?_
         rw [abt hin hj (by rw [e3]; decide),e3]; rfl
        ·have h6 := bkm ht81
         have e2 : mkE b.pts q = 0:=by unfold mkE; rw [hmd,if_neg (by rw [h4]; decide),if_neg hmnd,if_pos h6]
         refine ga abl ?_
         exact gK1 hK3 (q + 1) ⟨hpn,fun j h9 => by rcases lt_or_ge j q with g | g; exact hpj j g; (have : j = q:=by omega); subst this; exact e2⟩
     ·have hpn := aa8 hp ht47
      subst hpn
      have e2 : bdE bs k = 0 := e1.trans (air hpj)
      refine ga abl ?_
      exact gK1 hK1 (k + 1) ⟨hin,fun j h9 => by rcases lt_or_ge j k with g | g; exact hj j g; (have : j = k:=by omega); subst this; exact e2⟩
 ·have hin := aa8 hi ht14
  subst hin
  refine gE1 ?_
  rw [air hj]; rfl
end Go.Lw
namespace Go.Lw
open Go.Proofs
theorem arf (l : Li) (hl : l.ok) (j : Jt) : FnC prog 301 [l.av, j.av] (afe (jt0 l j)) := by
 refine gF0 func301 ?_
 refine gC (fun ht15 => ?_) (fun ht15 => ?_)
 ·have h1 := bi5 ht15
  refine gE1 ?_
  unfold jt0; rw [if_pos h1]; rfl
 ·have h1 := be8 ht15
  refine gl ?_
  refine gc (aff j.a l.bodies.length) ?_
  refine glG ?_
  refine gcG (fun _ => (aff j.b l.bodies.length)) ?_
  refine gC (fun ht32 => ?_) (fun ht32 => ?_)
  ·have h2 := bla ht32
   refine gE1 ?_
   unfold jt0; rw [if_neg h1,if_pos h2]; rfl
  ·have h2 := bkm ht32
   have h2n : ¬ (inB j.a l.bodies.length = false \/ inB j.b l.bodies.length = false):=by rw [h2.1,h2.2]; simp
   obtain ⟨A,hA,pA,mA,zA0⟩ := bat h2.1
   obtain ⟨B,hB,pB,mB,zB0⟩ := bat h2.2
   refine gC (fun ht38 => ?_) (fun ht38 => ?_)
   ·have h3 := al6 ht38
    refine gE1 ?_
    unfold jt0; rw [if_neg h1,if_neg h2n,if_pos h3]; rfl
   ·have h3 := amx ht38
    refine gi (aap hB) ?_
    refine gi (aap hA) ?_
    refine gl ?_
    refine gc (aff j.point A.pts.length) ?_
    refine glG ?_
    refine gcG (fun _ => (aff j.on B.pts.length)) ?_
    refine gD ?_
    refine gC (fun ht66 => ?_) (fun ht66 => ?_)
    ·have h4 := bla ht66
     refine gE1 ?_
     unfold jt0; rw [if_neg h1,if_neg h2n,if_neg h3,pA,pB,if_pos h4]; rfl
    ·have h4 := bkm ht66
     have h4n : ¬ (inB j.point A.pts.length = false \/ inB j.on B.pts.length = false):=by rw [h4.1,h4.2]; simp
     refine gC (fun ht70 => ?_) (fun ht70 => ?_)
     ·have h5 := al6 ht70
      refine gC (fun ht73 => ?_) (fun ht73 => ?_)
      ·have h6 := a6d ht73
       refine gE1 ?_
       unfold jt0; rw [if_neg h1,if_neg h2n,if_neg h3,pA,pB,if_neg h4n,if_pos h5,if_pos h6]; rfl
      ·have h6 := bf7 ht73
       refine gE1 ?_
       unfold jt0; rw [if_neg h1,if_neg h2n,if_neg h3,pA,pB,if_neg h4n,if_pos h5,if_neg (by rw [h6]; simp)]; rfl
     ·have h5 := amx ht70
      refine gl ?_
      refine gc (aff j.to B.pts.length) ?_
      refine gC (fun ht80 => ?_) (fun ht80 => ?_)
      ·have h6 := ajr ht80
       refine gE1 ?_
       unfold jt0; rw [if_neg h1,if_neg h2n,if_neg h3,pA,pB,if_neg h4n,if_neg h5,if_pos h6]; rfl
      ·have h6 := aj0 ht80
       obtain ⟨m1,g1,d1,mm1,z1⟩ := bbc h4.2
       obtain ⟨m2,g2,d2,mm2,z2⟩ := bbc h6
       have mo1 := (hl.bodies B mB).pts m1 mm1
       have mo2 := (hl.bodies B mB).pts m2 mm2
       refine gi (aap g1) ?_
       refine gi (aap g2) ?_
       refine gD ?_
       refine gc (aje m1.x m2.x mo1.x mo2.x) ?_
       refine gcG (fun _ => (aje m1.y m2.y mo1.y mo2.y)) ?_
       refine gC (fun ht105 => ?_) (fun ht105 => ?_)
       ·have h7 := bji ht105
        refine gE1 ?_
        unfold jt0; rw [if_neg h1,if_neg h2n,if_neg h3,pA,pB,if_neg h4n,if_neg h5,if_neg (by rw [h6]; decide),d1,d2,if_pos h7]; rfl
       ·have h7 := bgf ht105
        refine gE1 ?_
        unfold jt0; rw [if_neg h1,if_neg h2n,if_neg h3,pA,pB,if_neg h4n,if_neg h5,if_neg (by rw [h6]; decide),d1,d2,if_neg h7]; rfl
theorem aqe (l : Li) (hl : l.ok) : FnC prog 200 [l.av] (afe (axh l)) := by
 have hlj := hl.lj
 refine gF0 func200 ?_
 refine gl ?_
 refine gC (fun ht11 => ?_) (fun ht11 => ?_)
 ·have h0 : 16 < l.joints.length := aww ht11
  refine gE1 ?_
  unfold axh; rw [if_pos h0]; rfl
 ·have h0 : l.joints.length <= 16 := aul ht11
  have e0 : axh l = afo l.joints.length (jtE l):=by unfold axh; rw [if_neg (by omega)]
  refine gl ?_
  refine gL1 [1,14,15] [1] (fun (i : Nat) => [(16,some (i64 i))]) (fun _ => []) (fun i => i <= l.joints.length /\ ∀ j,j < i -> jtE l j = 0) (fun i => l.joints.length - i) 0 ⟨zero_le _,fun j h => by omega⟩ ?_
  rintro i ⟨hi,hj⟩ K1 hK1
  refine gC (fun ht17 => ?_) (fun ht17 => ?_)
  ·have hin := acr ht17
   obtain ⟨b,hb⟩ := adg hin
   have hbd : l.joints.getD i default = b := abc hb
   have hbdup := aj9 Jt.name hb
   refine gi (aap hb) ?_
   refine gc (ae1 b.name (hl.jnames b (mem_of_getElem? hb))) ?_
   refine gC (fun ht24 => ?_) (fun ht24 => ?_)
   ·have h1 := ajr ht24
    have e1 : jtE l i = 5:=by unfold jtE; rw [hbd,if_pos h1]
    refine gE1 ?_
    rw [e0,abt hin hj (by rw [e1]; decide),e1]; rfl
   ·have h1 := aj0 ht24
    refine gs (aan (.tmp rfl) (.none _) (.some _ (.tmp rfl) (by omega)) T23 rfl T157 rfl (by omega) (by simp only [length_map]; omega) rfl) ?_
    refine ge rfl ?_
    refine gL1 [1,3,4,14,15,16] [1,4] (fun (k : Nat) => [(29,some (.lst 7 ((l.joints.take i).map Jt.av))),(30,some (i64 i)),(31,some (i64 k))]) (fun _ => []) (fun k => k <= i /\ (l.joints.take k).any (fun y => eqS y.name b.name) = false) (fun k => i - k) 0 ⟨zero_le _,rfl⟩ ?_ (h1 := (.cons rfl (Sub.of (bja 7 Jt.av l.joints i)) (.cons rfl (Sub.int (by simp; omega)) (.k .nil))))
    rintro k ⟨hk,hd⟩ K2 hK2
    refine gC (fun ht32 => ?_) (fun ht32 => ?_)
    ·have hkn := acr ht32
     obtain ⟨y,hy'⟩ : ∃ y,(l.joints.take i)[k]? = some y := adg (by simp; omega)
     have hy := (aky hy').1
     refine gi (aap hy') ?_
     refine gC (fun ht39 => ?_) (fun ht39 => ?_)
     ·have h2 : eqS y.name b.name = true := ht39
      have e1 : jtE l i = 6:=by unfold jtE; rw [hbd,if_neg (by rw [h1]; decide),if_pos (by rw [hbdup]; exact aow hy hkn h2)]
      refine gE1 ?_
      rw [e0,abt hin hj (by rw [e1]; decide),e1]; rfl
     ·have h2 : eqS y.name b.name = false := ht39
      refine ga abl ?_
      exact gK1 hK2 (k + 1) ⟨hkn,akd hy hd h2⟩
    ·have hkn := aa8 hk ht32
     subst hkn
     have hnd : ¬ az2 (l.joints.map Jt.name) k = true:=by rw [hbdup,hd]; decide
     have e1 : jtE l k = jt0 l b:=by unfold jtE; rw [hbd,if_neg (by rw [h1]; decide),if_neg hnd]
     refine gc (arf l hl b) ?_
     refine gC (fun ht46 => ?_) (fun ht46 => ?_)
     ·have h3 := acy ht46
      refine gE1 ?_
      rw [e0,abt hin hj (by rw [e1]; exact h3),e1]
     ·have h3 := ach ht46
      refine ga abl ?_
      exact gK1 hK1 (k + 1) ⟨hin,fun j h9 => by rcases lt_or_ge j k with g | g; exact hj j g; (have : j = k:=by omega); subst this; exact e1.trans h3⟩
  ·have hin := aa8 hi ht17
   subst hin
   refine gE1 ?_
   rw [e0,air hj]; rfl
theorem aoz (l : Li) (hl : l.ok) : FnC prog 201 [l.av] (afe (a6k l)) := by
 have hld := hl.ld
 refine gF0 func201 ?_
 refine gl ?_
 refine gC (fun ht12 => ?_) (fun ht12 => ?_)
 ·have h0 : 2 < l.drivers.length := aww ht12
  refine gE1 ?_
  unfold a6k; rw [if_pos h0]; rfl
 ·have h0 : l.drivers.length <= 2 := aul ht12
  have e0 : a6k l = afo l.drivers.length (drE l):=by unfold a6k; rw [if_neg (by omega)]
  refine gl ?_
  refine gL1 [1,15,16] [1] (fun (i : Nat) => [(17,some (i64 i))]) (fun _ => []) (fun i => i <= l.drivers.length /\ ∀ j,j < i -> drE l j = 0) (fun i => l.drivers.length - i) 0 ⟨zero_le _,fun j h => by omega⟩ ?_
  rintro i ⟨hi,hj⟩ K1 hK1
  refine gC (fun ht18 => ?_) (fun ht18 => ?_)
  ·have hin := acr ht18
   obtain ⟨b,hb⟩ := adg hin
   have hbd : l.drivers.getD i default = b := abc hb
   have hbdup := aj9 Dr.name hb
   refine gi (aap hb) ?_
   refine gc (ae1 b.name (hl.dnames b (mem_of_getElem? hb))) ?_
   refine gC (fun ht25 => ?_) (fun ht25 => ?_)
   ·have h1 := ajr ht25
    have e1 : drE l i = 5:=by unfold drE; rw [hbd,if_pos h1]
    refine gE1 ?_
    rw [e0,abt hin hj (by rw [e1]; decide),e1]; rfl
   ·have h1 := aj0 ht25
    refine gs (aan (.tmp rfl) (.none _) (.some _ (.tmp rfl) (by omega)) T24 rfl T190 rfl (by omega) (by simp only [length_map]; omega) rfl) ?_
    refine ge rfl ?_
    refine gL1 [1,3,4,15,16,17] [1,4] (fun (k : Nat) => [(30,some (.lst 2 ((l.drivers.take i).map Dr.av))),(31,some (i64 i)),(32,some (i64 k))]) (fun _ => []) (fun k => k <= i /\ (l.drivers.take k).any (fun y => eqS y.name b.name) = false) (fun k => i - k) 0 ⟨zero_le _,rfl⟩ ?_ (h1 := (.cons rfl (Sub.of (bja 2 Dr.av l.drivers i)) (.cons rfl (Sub.int (by simp; omega)) (.k .nil))))
    rintro k ⟨hk,hd⟩ K2 hK2
    refine gC (fun ht33 => ?_) (fun ht33 => ?_)
    ·have hkn := acr ht33
     obtain ⟨y,hy'⟩ : ∃ y,(l.drivers.take i)[k]? = some y := adg (by simp; omega)
     have hy := (aky hy').1
     refine gi (aap hy') ?_
     refine gC (fun ht40 => ?_) (fun ht40 => ?_)
     ·have h2 : eqS y.name b.name = true := ht40
      have e1 : drE l i = 6:=by unfold drE; rw [hbd,if_neg (by rw [h1]; decide),if_pos (by rw [hbdup]; exact aow hy hkn h2)]
      refine gE1 ?_
      rw [e0,abt hin hj (by rw [e1]; decide),e1]; rfl
     ·have h2 : eqS y.name b.name = false := ht40
      refine ga abl ?_
      exact gK1 hK2 (k + 1) ⟨hkn,akd hy hd h2⟩
    ·have hkn := aa8 hk ht33
     subst hkn
     have hnd : ¬ az2 (l.drivers.map Dr.name) k = true:=by rw [hbdup,hd]; decide
     refine gl ?_
     refine gc (aff b.body l.bodies.length) ?_
     refine gC (fun ht49 => ?_) (fun ht49 => ?_)
     ·have h3 := ajr ht49
      have e1 : drE l k = 9:=by unfold drE; rw [hbd,if_neg (by rw [h1]; decide),if_neg hnd,if_pos h3]
      refine gE1 ?_
      rw [e0,abt hin hj (by rw [e1]; decide),e1]; rfl
     ·have h3 := aj0 ht49
      refine gC (fun ht53 => ?_) (fun ht53 => ?_)
      ·have h4 := al6 ht53
       have e1 : drE l k = 7:=by unfold drE; rw [hbd,if_neg (by rw [h1]; decide),if_neg hnd,if_neg (by rw [h3]; decide),if_pos h4]
       refine gE1 ?_
       rw [e0,abt hin hj (by rw [e1]; decide),e1]; rfl
      ·have h4 := amx ht53
       have e1 : drE l k = if (l.drivers.take k).any (fun d => decide (d.body = b.body)) = true then 6 else 0:=by unfold drE; rw [hbd,if_neg (by rw [h1]; decide),if_neg hnd,if_neg (by rw [h3]; decide),if_neg h4]
       refine gs (aan (.tmp rfl) (.none _) (.some _ (.tmp rfl) (by omega)) T24 rfl T190 rfl (by omega) (by simp only [length_map]; omega) rfl) ?_
       refine ge rfl ?_
       refine gL1 [1,4,15,16,17] [1,4] (fun (q : Nat) => [(58,some (.lst 2 ((l.drivers.take k).map Dr.av))),(59,some (i64 k)),(60,some (i64 q))]) (fun _ => []) (fun q => q <= k /\ (l.drivers.take q).any (fun d => decide (d.body = b.body)) = false) (fun q => k - q) 0 ⟨zero_le _,rfl⟩ ?_ (h1 := (.cons rfl (Sub.of (bja 2 Dr.av l.drivers k)) (.cons rfl (Sub.int (by simp; omega)) (.k .nil))))
       rintro q ⟨hq,hqd⟩ K3 hK3
       refine gC (fun ht61 => ?_) (fun ht61 => ?_)
       ·have hqn := acr ht61
        obtain ⟨y,hy'⟩ : ∃ y,(l.drivers.take k)[q]? = some y := adg (by simp; omega)
        have hy := (aky hy').1
        refine gi (aap hy') ?_
        refine gC (fun ht68 => ?_) (fun ht68 => ?_)
        ·have h5 : decide (y.body = b.body) = true := decide_eq_true (al6 ht68)
         have e2 : drE l k = 6:=by rw [e1,if_pos (aow hy hqn h5)]
         refine gE1 ?_
         rw [e0,abt hin hj (by rw [e2]; decide),e2]; rfl
        ·have h5 : decide (y.body = b.body) = false := decide_eq_false (amx ht68)
         refine ga abl ?_
         exact gK1 hK3 (q + 1) ⟨hqn,akd hy hqd h5⟩
       ·have hqn := aa8 hq ht61
        subst hqn
        have e2 : drE l q = 0:=by rw [e1,hqd]; rfl
        refine ga abl ?_
        exact gK1 hK1 (q + 1) ⟨hin,fun j h9 => by rcases lt_or_ge j q with g | g; exact hj j g; (have : j = q:=by omega); subst this; exact e2⟩
  ·have hin := aa8 hi ht18
   subst hin
   refine gE1 ?_
   rw [e0,air hj]; rfl
theorem alg (l : Li) (hl : l.ok) : FnC prog 102 [l.av] (afe (liE l)) := by
 have hlb := hl.lb
 refine gF0 func102 ?_
 refine gc (ae1 l.name hl.name) ?_
 refine gC (fun ht8 => ?_) (fun ht8 => ?_)
 ·have h1 := ajr ht8
  refine gE1 ?_
  unfold liE; rw [if_pos h1]; rfl
 ·have h1 := aj0 ht8
  refine gl ?_
  refine gC (fun ht13 => ?_) (fun ht13 => ?_)
  ·have h2 := bil ht13
   refine gE1 ?_
   unfold liE; rw [if_neg (by rw [h1]; decide),if_pos h2]; rfl
  ·have h2 := bi1 ht13
   refine gl ?_
   refine gC (fun ht18 => ?_) (fun ht18 => ?_)
   ·have h3 : 8 < l.bodies.length := aww ht18
    refine gE1 ?_
    unfold liE; rw [if_neg (by rw [h1]; decide),if_neg h2,if_pos h3]; rfl
   ·have h3 : l.bodies.length <= 8 := aul ht18
    have e0 : liE l = if a65 l ≠ 0 then a65 l else if axh l ≠ 0 then axh l else a6k l:=by unfold liE; rw [if_neg (by rw [h1]; decide),if_neg h2,if_neg (by omega)]
    refine gc (ap5 l.bodies hl.bodies hlb) ?_
    refine gC (fun ht24 => ?_) (fun ht24 => ?_)
    ·have h4 : a65 l ≠ 0 := acy ht24
     refine gE1 ?_
     rw [e0,if_pos h4]; rfl
    ·have h4 : a65 l = 0 := ach ht24
     refine gc (aqe l hl) ?_
     refine gC (fun ht29 => ?_) (fun ht29 => ?_)
     ·have h5 := acy ht29
      refine gE1 ?_
      rw [e0,if_neg (by rw [h4]; simp),if_pos h5]
     ·have h5 := ach ht29
      refine gc (aoz l hl) ?_
      refine gE1 ?_
      rw [e0,if_neg (by rw [h4]; simp),if_neg (by rw [h5]; simp)]
end Go.Lw
namespace Go.Lw
open Go.Proofs
end Go.Lw
namespace Go.Lw
open Go.Proofs
theorem ahk (rs xs : List (List Rt)) (w m : Nat) (hrs : ai2 rs) (hxs : ai2 xs) (hrl : rs.length <= 100) (hxl : xs.length <= 100) : FnC prog 143 [agt rs, i64 w, i64 m, .lst 1 (xs.map nR)] (bl (ahp w m (rs ++ xs))) := by
 obtain ⟨l,hl⟩ : ∃ l,l = rs ++ xs := ⟨_,rfl⟩
 have hlo : ai2 l:=by rw [hl]; exact hrs.app hxs
 have hll : l.length <= 200:=by rw [hl,length_append]; omega
 have hml : rs.map nR ++ xs.map nR = l.map nR:=by rw [hl,map_append]
 rw [<- hl]
 refine gF0 func143 ?_
 refine gs (ab3 T27 rfl T38 rfl rfl rfl) ?_
 refine gs (abq (.tmp rfl) rfl rfl (.tmp rfl) T27 rfl T38 rfl rfl (by simp only [length_map]; omega) rfl rfl) ?_
 refine gs (aew (.tmp rfl) rfl (by simp) (.tmp rfl) T27 rfl T38 rfl rfl (by simp only [length_map]; omega) rfl rfl) ?_
 refine ge rfl ?_
 refine gL1 [1,2] [] (fun (i : Nat) => [(18,some (.lst 1 (l.map nR))),(19,some (i64 l.length)),(20,some (i64 i))]) (fun _ => []) (fun i => i <= l.length /\ (l.take i).all (ajb w m) = true) (fun i => l.length - i) 0 ⟨zero_le _,rfl⟩ ?_ (h1 := (.cons rfl (Sub.of (congrArg (AV.lst 1) hml)) (.cons rfl (Sub.int (by rw [nil_append,hml,length_map])) (.k .nil))))
 rintro i ⟨hi,hj⟩ K1 hK1
 refine gC (fun ht21 => ?_) (fun ht21 => ?_)
 ·have hin := acr ht21
  obtain ⟨x,hx⟩ := adg hin
  have hxo := hlo x (mem_of_getElem? hx)
  have hxl := hxo.2
  refine gi (aap hx) ?_
  refine gl ?_
  refine gC (fun ht27 => ?_) (fun ht27 => ?_)
  ·have h1 := aww ht27
   refine gE1 ?_
   rw [ahp,af1 hx (by unfold ajb; rw [decide_eq_false (by omega)]; rfl)]; rfl
  ·have h1 : x.length <= m := aul ht27
   refine gl ?_
   refine gL1 [1,2,18,19,20,28,29] [] (fun (k : Nat) => [(30,some (i64 k))]) (fun _ => []) (fun k => k <= x.length /\ (x.take k).all (fun r => decide (r.num.length <= w /\ r.den.length <= w)) = true) (fun k => x.length - k) 0 ⟨zero_le _,rfl⟩ ?_
   rintro k ⟨hk,hkj⟩ K2 hK2
   refine gC (fun ht31 => ?_) (fun ht31 => ?_)
   ·have hkn := acr ht31
    obtain ⟨r,hr⟩ := adg hkn
    refine gi (aap hr) ?_
    refine gl ?_
    refine glG ?_
    refine gC (fun ht45 => ?_) (fun ht45 => ?_)
    ·have h2 : ¬ (r.num.length <= w /\ r.den.length <= w) := bhq ht45
     refine gE1 ?_
     rw [ahp,af1 hx (by unfold ajb; rw [af1 hr (decide_eq_false h2),Bool.and_false])]; rfl
    ·have h2 : r.num.length <= w /\ r.den.length <= w := bhd ht45
     refine ga abl ?_
     exact gK1 hK2 (k + 1) ⟨hkn,ako hkj hr (decide_eq_true h2)⟩
   ·have hkn := aa8 hk ht31
    refine ga abl ?_
    exact gK1 hK1 (i + 1) ⟨hin,ako hj hx (by unfold ajb; rw [decide_eq_true h1,aox hkn hkj]; rfl)⟩
 ·have hin := aa8 hi ht21
  refine gE1 ?_
  rw [ahp,aox hin hj]; rfl
theorem aoi (rs xs : List (List Rt)) (hrs : ai2 rs) (hxs : ai2 xs) (hrl : rs.length <= 281474976710656) (hxl : xs.length <= 100) : FnC prog 55 [agt rs, .lst 1 (xs.map nR)] (bl (ahy rs xs)) := by
 refine gF0 func55 ?_
 refine gl ?_
 refine gC (fun ht9 => ?_) (fun ht9 => ?_)
 ·have h1 : rs.length <= 1 \/ (5 < rs.length /\ rs.length <= 8) := bk9 ht9
  refine gc (ahk rs xs 3 40 hrs hxs (by omega) hxl) ?_
  refine gE1 ?_
  unfold ahy; rw [if_pos h1]
 ·have h1 : ¬ (rs.length <= 1 \/ (5 < rs.length /\ rs.length <= 8)) := bki ht9
  refine gC (fun ht23 => ?_) (fun ht23 => ?_)
  ·have h2 : rs.length = 2 := by have := al6 ht23; omega
   refine gc (ahk rs xs 1 40 hrs hxs (by omega) hxl) ?_
   refine gE1 ?_
   unfold ahy; rw [if_neg h1,if_pos h2]
  ·have h2 : ¬ rs.length = 2 := by have := amx ht23; omega
   refine gC (fun ht29 => ?_) (fun ht29 => ?_)
   ·have h3 : rs.length = 3 := by have := al6 ht29; omega
    refine gc (ahk rs xs 1 4 hrs hxs (by omega) hxl) ?_
    refine gE1 ?_
    unfold ahy; rw [if_neg h1,if_neg h2,if_pos h3]
   ·have h3 : ¬ rs.length = 3 := by have := amx ht29; omega
    refine gE1 ?_
    unfold ahy; rw [if_neg h1,if_neg h2,if_neg h3]; rfl
theorem al4 (rs xs : List (List Rt)) (hrs : ai2 rs) (hxs : ai2 xs) (hrl : rs.length <= 281474976710656) (hxl : xs.length <= 100) : FnC prog 122 [agt rs, .lst 1 (xs.map nR)] (bl (ai4 rs xs)) := by
 refine gF0 func122 ?_
 refine gl ?_
 refine gC (fun ht8 => ?_) (fun ht8 => ?_)
 ·have h2 : rs.length = 2 := by have := al6 ht8; omega
  refine gc (ahk rs xs 2 40 hrs hxs (by omega) hxl) ?_
  refine gE1 ?_
  unfold ai4; rw [if_pos h2]
 ·have h2 : ¬ rs.length = 2 := by have := amx ht8; omega
  refine gc (aoi rs xs hrs hxs hrl hxl) ?_
  refine gE1 ?_
  unfold ai4; rw [if_neg h2]
end Go.Lw
namespace Go.Lw
open Go.Proofs
theorem av5 : FnC prog 16 [.v .nilIface] (i64 0) := by
 refine gF0 func16 ?_
 refine gC (fun ht6 => ?_) (fun ht6 => ?_) (st2 := (77777,0))
 ·refine gE1 ?_
  first | rfl | (simp; done)
 ·cases ht6
theorem avl (n : Int) : FnC prog 16 [.v (.iface 66 (.int .i64 n))] (i64 n) := by
 refine gF0 func16 ?_
 refine gC (fun ht6 => ?_) (fun ht6 => ?_) (st1 := (2,0))
 ·cases ht6
 ·refine gs (a6u (.tmp rfl) T66 rfl rfl) ?_
  refine gC (fun ht13 => ?_) (fun ht13 => ?_) (st1 := (5,0))
  ·cases ht13
  ·refine gE1 ?_
   rfl
theorem azm (e : Nat) : FnC prog 16 [afe e] (i64 e) := by
 cases e with
 | zero => exact av5
 | succ e => exact avl _
end Go.Lw
namespace Go.Lw
structure Gr where
  kind : Int
  bodies : List Int
  joints : List Int
  driver : Int
instance : Inhabited Gr := ⟨⟨0,[],[],0⟩⟩
def Gr.av (g : Gr) : AV := .agg [i64 g.kind,.lst 1 (g.bodies.map i64),.lst 1 (g.joints.map i64),i64 g.driver]
def kn (k : List Bool) (i : Int) : Bool := k.getD i.toNat false
def ags (n : Nat) (b : Int) : List Bool := (List.replicate n false).set b.toNat true
def avq (l : Li) (b : Int) : Bool := l.drivers.any (fun d => decide (d.body = b))
def akh (l : Li) (known : List Bool) (b : Int) : Bool := !kn known b && !avq l b
def bkz (kind body : Int) (oth : List Bool) (j : Jt) : Bool := decide (j.kind = kind) && (decide (j.a = body) && kn oth j.b || decide (j.b = body) && kn oth j.a)
def ace (l : Li) (kind body : Int) (oth : List Bool) : Int := ixI (adc l.joints.length (fun i => !bkz kind body oth (l.joints.getD i default)))
def ap1 (l : Li) (known : List Bool) (i : Nat) : Bool := !kn known (l.drivers.getD i default).body && decide (0 <= ace l 0 (l.drivers.getD i default).body known)
def ae8 (l : Li) (known : List Bool) : Option Gr :=
  (adc l.drivers.length (fun i => !ap1 l known i)).map fun i => ⟨0,[(l.drivers.getD i default).body],[ace l 0 (l.drivers.getD i default).body known],i⟩
def aha (l : Li) (known : List Bool) (i k : Nat) : Bool :=
  (akh l known i && akh l known k) && (decide (0 <= ace l 0 i known) && decide (0 <= ace l 0 k known) && decide (0 <= ace l 0 i (ags l.bodies.length k)))
def a8a (l : Li) (known : List Bool) (i : Nat) : Option Nat := (adc (l.bodies.length - (i + 1)) (fun k => !aha l known i (i + 1 + k))).map (· + (i + 1))
def prG (l : Li) (known : List Bool) (i k : Nat) : Gr := ⟨1,[i,k],[ace l 0 i known,ace l 0 k known,ace l 0 i (ags l.bodies.length k)],0⟩
def ajp (l : Li) (known : List Bool) : Option Gr :=
  (adc l.bodies.length (fun i => (a8a l known i).isNone)).map fun i => match a8a l known i with
    | some k => prG l known i k
    | none => default
def ap2 (l : Li) (known : List Bool) (i : Nat) : Bool := akh l known i && (decide (0 <= ace l 0 i known) && decide (0 <= ace l 1 i known))
def sgG (l : Li) (known : List Bool) (i : Nat) : Gr :=
  ⟨if (l.joints.getD (ace l 1 i known).toNat default).a = i then 2 else 3,[i],[ace l 0 i known,ace l 1 i known],0⟩
def afk (l : Li) (known : List Bool) : Option Gr := (adc l.bodies.length (fun i => !ap2 l known i)).map (sgG l known)
def afz (l : Li) (known : List Bool) : Option Gr := (ae8 l known).or ((ajp l known).or (afk l known))
def abb (known : List Bool) (bs : List Int) : List Bool := bs.foldl (fun k b => k.set b.toNat true) known
def abi (l : Li) : Nat -> List Bool -> List Gr -> List Bool × List Gr
  | 0,known,out => (known,out)
  | n + 1, known, out => match afz l known with
    | none => (known,out)
    | some g => abi l n (abb known g.bodies) (out ++ [g])
def afd (l : Li) : List Gr := (abi l l.bodies.length (ags l.bodies.length 0) []).2
def age (l : Li) : List Bool := (afd l).foldl (fun k g => abb k g.bodies) (ags l.bodies.length 0)
def ap9 (l : Li) : List Bool := (afd l).foldl (fun k g => abb k g.joints) (List.replicate l.joints.length false)
def anf (k : List Bool) : List Int := ((List.range k.length).filter (fun i => !k.getD i false)).map (fun i : Nat => ((i : Nat) : Int))
def aof (l : Li) : Nat := if (anf (age l)).length + (anf (ap9 l)).length = 0 then 0 else 7
def ayz (l : Li) : List Gr := if aof l = 0 then afd l else []
theorem akw (n : Nat) (b : Int) : (ags n b).length = n:=by unfold ags; simp
theorem aeo : ∀ (bs : List Int) (k : List Bool), (abb k bs).length = k.length
 | [],k => rfl
 | b :: bs, k => by
  show (abb (k.set b.toNat true) bs).length = _
  rw [aeo bs]; simp
theorem aca {n i : Nat} {ok : Nat -> Bool} (h : adc n ok = some i) : i < n /\ ok i = false := by
 unfold adc at h
 rw [List.find?_range_eq_some] at h
 exact ⟨by simpa using h.2.1,by simpa using h.1⟩
theorem afr {l : Li} {kind body : Int} {oth : List Bool} : -1 <= ace l kind body oth /\ ace l kind body oth < l.joints.length := by
 unfold ace
 cases h : adc l.joints.length (fun i => !bkz kind body oth (l.joints.getD i default)) with
 | none => exact ⟨by decide,by show (-1 : Int) < _; omega⟩
 | some i => have := (aca h).1; exact ⟨by show (-1 : Int) <= (i : Int); omega,by show (i : Int) < _; omega⟩
structure GrOk (l : Li) (g : Gr) : Prop where
  b : ∀ x ∈ g.bodies,0 <= x /\ x < l.bodies.length
  j : ∀ x ∈ g.joints,0 <= x /\ x < l.joints.length
  lb : g.bodies.length <= 2
  lj : g.joints.length <= 3
theorem az4 {l : Li} (hl : liE l = 0) {known : List Bool} {g : Gr} (h : ae8 l known = some g) : GrOk l g := by
 unfold ae8 at h
 rw [map_eq_some_iff] at h
 obtain ⟨i,hi,rfl⟩ := h
 obtain ⟨h1,h2⟩ := aca hi
 obtain ⟨d,hd⟩ := adg h1
 have h3 := an4 (a3o hl hd)
 unfold ap1 at h2
 simp only [Bool.not_eq_false',and_eq_true,decide_eq_true_eq] at h2
 rw [abc hd] at h2 ⊢
 have h4 := afr (l := l) (kind := 0) (body := d.body) (oth := known)
 refine ⟨fun x hx => ?_,fun x hx => ?_,by simp,by simp⟩
 ·rw [List.mem_singleton.1 hx]; exact h3
 ·rw [List.mem_singleton.1 hx]; exact ⟨h2.2,h4.2⟩
theorem a7b {l : Li} {known : List Bool} {g : Gr} (h : ajp l known = some g) : GrOk l g := by
 unfold ajp at h
 rw [map_eq_some_iff] at h
 obtain ⟨i,hi,h⟩ := h
 obtain ⟨h1,h2⟩ := aca hi
 split at h
 ·rename_i k hk
  subst h
  unfold a8a at hk
  rw [map_eq_some_iff] at hk
  obtain ⟨k',hk',rfl⟩ := hk
  obtain ⟨h3,h4⟩ := aca hk'
  rw [show i + 1 + k' = k' + (i + 1) by omega] at h4
  unfold aha at h4
  simp only [Bool.not_eq_false',and_eq_true,decide_eq_true_eq] at h4
  obtain ⟨_,⟨j1,j2⟩,j3⟩ := h4
  refine ⟨fun x hx => ?_,fun x hx => ?_,by simp [prG],by simp [prG]⟩
  ·simp only [prG, mem_cons, not_mem_nil, or_false] at hx
   rcases hx with rfl | rfl <;> constructor <;> omega
  ·simp only [prG, mem_cons, not_mem_nil, or_false] at hx
   rcases hx with rfl | rfl | rfl
   ·exact ⟨j1,afr.2⟩
   ·exact ⟨j2,afr.2⟩
   ·exact ⟨j3,afr.2⟩
 ·rename_i hk; rw [hk] at h2; cases h2
theorem azf {l : Li} {known : List Bool} {g : Gr} (h : afk l known = some g) : GrOk l g := by
 unfold afk at h
 rw [map_eq_some_iff] at h
 obtain ⟨i,hi,rfl⟩ := h
 obtain ⟨h1,h2⟩ := aca hi
 unfold ap2 at h2
 simp only [Bool.not_eq_false',and_eq_true,decide_eq_true_eq] at h2
 obtain ⟨_,j1,j2⟩ := h2
 refine ⟨fun x hx => ?_,fun x hx => ?_,by simp [sgG],by simp [sgG]⟩
 ·simp only [sgG, mem_cons, not_mem_nil, or_false] at hx
  subst hx; constructor <;> omega
 ·simp only [sgG, mem_cons, not_mem_nil, or_false] at hx
  rcases hx with rfl | rfl
  ·exact ⟨j1,afr.2⟩
  ·exact ⟨j2,afr.2⟩
theorem ax5 {l : Li} (hl : liE l = 0) {known : List Bool} {g : Gr} (h : afz l known = some g) : GrOk l g := by
 unfold afz at h
 cases h1 : ae8 l known with
 | some g' => rw [h1] at h; cases h; exact az4 hl h1
 | none =>
  rw [h1] at h
  cases h2 : ajp l known with
  | some g' => rw [h2] at h; cases h; exact a7b h2
  | none => rw [h2] at h; exact azf h
theorem aot {l : Li} (hl : liE l = 0) : ∀ (n : Nat) (known : List Bool) (out : List Gr), (∀ g ∈ out, GrOk l g) -> (∀ g ∈ (abi l n known out).2, GrOk l g) /\ (abi l n known out).2.length <= out.length + n
 | 0,known,out,h => ⟨h,by simp [abi]⟩
 | n + 1, known, out, h => by
  unfold abi
  cases hg : afz l known with
  | none => exact ⟨h,by simp⟩
  | some g =>
   have h1 := aot hl n (abb known g.bodies) (out ++ [g]) (fun x hx => by
    rcases List.mem_append.1 hx with hx | hx
    ·exact h x hx
    ·rw [List.mem_singleton.1 hx]; exact ax5 hl hg)
   refine ⟨h1.1,?_⟩
   have := h1.2
   rw [length_append] at this
   show (abi l n (abb known g.bodies) (out ++ [g])).2.length <= _
   simp only [length_cons,length_nil] at this
   omega
theorem a8j {l : Li} (hl : liE l = 0) : (∀ g ∈ afd l, GrOk l g) /\ (afd l).length <= 8 := by
 have h := aot hl l.bodies.length (ags l.bodies.length 0) [] (fun g hg => by cases hg)
 have h8 := (aeq hl).2.2.2.1
 exact ⟨h.1,by have := h.2; simp only [length_nil] at this; unfold afd; omega⟩
end Go.Lw
namespace Go.Lw
def ahs (j : Jt) (b : Int) : Int := if b = j.a then j.b else if b = j.b then j.a else -1
def bjv (kind body : Int) (p : Int -> Bool) (j : Jt) : Bool := decide (j.kind = kind) && (decide (0 <= ahs j body) && p (ahs j body))
def gJ (l : Li) (kind body : Int) (p : Int -> Bool) : Int := ixI (adc l.joints.length (fun i => !bjv kind body p (l.joints.getD i default)))
theorem bn3 {b : Bool} {z : Int} (h : cond b (aab .geq z 0) false = true) : 0 <= z := by
 cases b
 ·cases h
 ·exact of_decide_eq_true h
theorem bg7 {a k z : Int} {q : Bool} : cond (cond (aab .eql a k) (aab .geq z 0) false) q false = (decide (a = k) && (decide (0 <= z) && q)) := by
 rw [a03,show aab .geq z 0 = decide (0 <= z) from rfl,aiz,aiz,Bool.and_assoc]
theorem a9b {l : Li} (hli : liE l = 0) {i : Nat} {j : Jt} (hj : l.joints[i]? = some j) (b : Int) : ahs j b < l.bodies.length := by
 obtain ⟨i1,i2,_⟩ := bfj hli hj
 have b1 := an4 i1
 have b2 := an4 i2
 unfold ahs
 split
 ·omega
 ·split <;> omega
theorem atb {n : Nat} {ok ok' : Nat -> Bool} (h : ∀ i, i < n -> ok i = ok' i) : adc n ok = adc n ok' := by
 unfold adc
 have : ∀ l : List Nat, (∀ i ∈ l, i < n) -> l.find? (fun i => !ok i) = l.find? (fun i => !ok' i) := by
  intro l
  induction l with
  | nil => intro _; rfl
  | cons a l ih =>
   intro hl
   simp only [List.find?_cons,h a (hl a (by simp)),ih (fun i hi => hl i (by simp [hi]))]
 exact this _ (fun i hi => List.mem_range.1 hi)
theorem bci {l : Li} (hli : liE l = 0) {kind body : Int} {p : Int -> Bool} {oth : List Bool} (h : ∀ o : Int, 0 <= o -> o < l.bodies.length -> p o = kn oth o) : gJ l kind body p = ace l kind body oth := by
 unfold gJ ace
 rw [atb]
 intro i hi
 obtain ⟨j,hj⟩ := adg hi
 rw [abc hj]
 obtain ⟨i1,i2,_⟩ := bfj hli hj
 have b1 := an4 i1
 have b2 := an4 i2
 congr 1
 unfold bjv bkz
 congr 1
 unfold ahs
 by_cases h1 : body = j.a
 ·subst h1
  rw [if_pos rfl,h _ b2.1 b2.2]
  by_cases h2 : j.b = j.a
  ·simp [h2,b1.1]
  ·simp [h2,b2.1]
 ·rw [if_neg h1]
  by_cases h2 : body = j.b
  ·subst h2
   rw [if_pos rfl,h _ b1.1 b1.2]
   have h3 : ¬ j.a = j.b := fun e => h1 e.symm
   simp [h3,b1.1]
  ·rw [if_neg h2]
   have h3 : ¬ j.a = body := fun e => h1 e.symm
   have h4 : ¬ j.b = body := fun e => h2 e.symm
   simp [h3,h4]
theorem a9m {k : List Bool} {i : Nat} {b : Int} (h0 : 0 <= b) (hi : i < k.length) : kn (k.set i true) b = (decide (b = i) || kn k b) := by
 unfold kn
 rw [getD_eq_getElem?_getD,List.getElem?_set,getD_eq_getElem?_getD]
 by_cases h : b = i
 ·rw [decide_eq_true h, Bool.true_or, if_pos (by omega)]
  rw [if_pos (by omega)]; rfl
 ·rw [decide_eq_false h,Bool.false_or,if_neg (by omega)]
theorem a1r : ∀ {bs : List Int} {k : List Bool} {b : Int}, 0 <= b -> (∀ x ∈ bs, 0 <= x /\ x < k.length) -> kn (abb k bs) b = (bs.any (fun x => decide (x = b)) || kn k b)
 | [],k,b,h0,h => by simp [abb]
 | x :: bs, k, b, h0, h => by
  show kn (abb (k.set x.toNat true) bs) b = _
  obtain ⟨hx0,hx1⟩ := h x (by simp)
  rw [a1r h0 (fun y hy => by rw [List.length_set]; exact h y (by simp [hy])),a9m h0 (by omega),List.any_cons]
  have e : decide (b = (x.toNat : Int)) = decide (x = b) := decide_eq_decide.2 (by omega)
  rw [e]
  cases decide (x = b) <;> simp
theorem ay4 (n : Nat) (b : Int) : kn (List.replicate n false) b = false := by
 unfold kn
 rw [getD_eq_getElem?_getD,List.getElem?_replicate]
 split <;> rfl
def aau (l : Li) : List Bool := abb (List.replicate l.bodies.length false) (l.drivers.map Dr.body)
theorem agx (l : Li) : (aau l).length = l.bodies.length:=by unfold aau; rw [aeo,List.length_replicate]
theorem a22 {l : Li} (hli : liE l = 0) {b : Int} (h0 : 0 <= b) : kn (aau l) b = avq l b := by
 unfold aau avq
 rw [a1r h0,ay4,Bool.or_false,List.any_map]
 ·rfl
 ·intro x hx
  obtain ⟨d,hd,rfl⟩ := List.mem_map.1 hx
  obtain ⟨i,hi⟩ := List.mem_iff_getElem?.1 hd
  have := an4 (a3o hli hi)
  rw [List.length_replicate]; omega
theorem bc6 {n : Nat} {b o : Int} (h0 : 0 <= o) (hb0 : 0 <= b) (hb : b < n) : kn (ags n b) o = decide (o = b) := by
 unfold ags
 rw [a9m h0 (by rw [List.length_replicate]; omega),ay4,Bool.or_false]
 exact decide_eq_decide.2 (by omega)
def unk (k : List Bool) : Nat := k.countP (fun x => !x)
theorem bcy {k : List Bool} {i : Nat} (h : k[i]? = some false) : unk (k.set i true) + 1 = unk k := by
 unfold unk
 have hi := (List.getElem?_eq_some_iff.1 h).1
 have he := (List.getElem?_eq_some_iff.1 h).2
 rw [List.countP_set hi,he]
 have : 0 < k.countP (fun x => !x) := List.countP_pos_iff.2 ⟨false,mem_of_getElem? h,rfl⟩
 simp; omega
theorem azq (k : List Bool) (i : Nat) : unk (k.set i true) <= unk k := by
 by_cases hi : i < k.length
 ·unfold unk; rw [List.countP_set hi]; simp
 ·rw [List.set_eq_of_length_le (by omega)]; exact le_refl _
theorem aoq : ∀ (bs : List Int) (k : List Bool), unk (abb k bs) <= unk k
 | [],k => le_refl _
 | x :: bs,k => le_trans (aoq bs (k.set x.toNat true)) (azq k _)
theorem a6v {x : Int} {bs : List Int} {k : List Bool} (h : k[x.toNat]? = some false) : unk (abb k (x :: bs)) < unk k := by
 have h1 := aoq bs (k.set x.toNat true)
 have h2 := bcy h
 show unk (abb (k.set x.toNat true) bs) < _
 omega
theorem a2a {k : List Bool} {b : Int} (h : kn k b = false) (h1 : b.toNat < k.length) : k[b.toNat]? = some false := by
 unfold kn at h
 rw [getD_eq_getElem?_getD,getElem?_eq_getElem h1] at h
 rw [getElem?_eq_getElem h1]
 simpa using h
theorem a1w {l : Li} (hl : liE l = 0) {known : List Bool} (hk : known.length = l.bodies.length) {g : Gr} (h : afz l known = some g) : ∃ x bs, g.bodies = x :: bs /\ known[x.toNat]? = some false := by
 unfold afz at h
 cases h1 : ae8 l known with
 | some g' =>
  rw [h1] at h; cases h
  unfold ae8 at h1
  rw [map_eq_some_iff] at h1
  obtain ⟨i,hi,rfl⟩ := h1
  obtain ⟨h2,h3⟩ := aca hi
  obtain ⟨d,hd⟩ := adg h2
  have h4 := an4 (a3o hl hd)
  rw [abc hd] at *
  unfold ap1 at h3
  rw [abc hd] at h3
  simp only [Bool.not_eq_false',and_eq_true,Bool.not_eq_true',decide_eq_true_eq] at h3
  exact ⟨_,_,rfl,a2a h3.1 (by omega)⟩
 | none =>
  rw [h1] at h
  cases h2 : ajp l known with
  | some g' =>
   rw [h2] at h; cases h
   unfold ajp at h2
   rw [map_eq_some_iff] at h2
   obtain ⟨i,hi,h2⟩ := h2
   obtain ⟨h3,h4⟩ := aca hi
   split at h2
   ·rename_i k hk'
    subst h2
    unfold a8a at hk'
    rw [map_eq_some_iff] at hk'
    obtain ⟨k',hk',rfl⟩ := hk'
    obtain ⟨h5,h6⟩ := aca hk'
    unfold aha akh at h6
    simp only [Bool.not_eq_false',and_eq_true,Bool.not_eq_true',decide_eq_true_eq] at h6
    exact ⟨_,_,rfl,a2a h6.1.1.1 (by omega)⟩
   ·rename_i hk'; rw [hk'] at h4; cases h4
  | none =>
   rw [h2] at h
   have h : afk l known = some g := h
   unfold afk at h
   rw [map_eq_some_iff] at h
   obtain ⟨i,hi,rfl⟩ := h
   obtain ⟨h3,h4⟩ := aca hi
   unfold ap2 akh at h4
   simp only [Bool.not_eq_false',and_eq_true,Bool.not_eq_true',decide_eq_true_eq] at h4
   exact ⟨_,_,rfl,a2a h4.1.1 (by omega)⟩
theorem agv {l : Li} (hl : liE l = 0) {known : List Bool} (hk : known.length = l.bodies.length) {g : Gr} (h : afz l known = some g) : unk (abb known g.bodies) < unk known := by
 obtain ⟨x,bs,e,h1⟩ := a1w hl hk h
 rw [e]; exact a6v h1
theorem ahd {l : Li} (hl : liE l = 0) : ∀ (n m : Nat) (known : List Bool) (out : List Gr), known.length = l.bodies.length -> unk known <= n -> unk known <= m -> abi l n known out = abi l m known out
 | 0,0,known,out,hk,h1,h2 => rfl
 | 0, m + 1, known, out, hk, h1, h2 => by
  unfold abi
  cases hg : afz l known with
  | none => rfl
  | some g => have := agv hl hk hg; omega
 | n + 1, 0, known, out, hk, h1, h2 => by
  unfold abi
  cases hg : afz l known with
  | none => rfl
  | some g => have := agv hl hk hg; omega
 | n + 1, m + 1, known, out, hk, h1, h2 => by
  unfold abi
  cases hg : afz l known with
  | none => rfl
  | some g =>
   have := agv hl hk hg
   exact ahd hl n m _ _ (by rw [aeo]; exact hk) (by omega) (by omega)
theorem agh {l : Li} : ∀ (n : Nat) (known : List Bool) (out : List Gr), ∃ gs, abi l n known out = (gs.foldl (fun k g => abb k g.bodies) known, out ++ gs)
 | 0,known,out => ⟨[],by simp [abi]⟩
 | n + 1, known, out => by
  unfold abi
  cases hg : afz l known with
  | none => exact ⟨[],by simp⟩
  | some g =>
   obtain ⟨gs,e⟩ := agh n (abb known g.bodies) (out ++ [g])
   exact ⟨g :: gs,by show abi l n _ _ = _; rw [e]; simp⟩
theorem az0 (l : Li) : abi l l.bodies.length (ags l.bodies.length 0) [] = (age l, afd l) := by
 obtain ⟨gs,e⟩ := agh (l := l) l.bodies.length (ags l.bodies.length 0) []
 unfold age afd
 rw [e]; simp
theorem ayt {k : List Bool} : (anf k).length = 0 ↔ k.contains false = false := by
 unfold anf
 rw [length_map,List.length_eq_zero_iff,List.filter_eq_nil_iff]
 constructor
 ·intro h
  rw [<- Bool.not_eq_true,List.contains_iff_mem]
  intro hm
  obtain ⟨i,hi⟩ := List.mem_iff_getElem?.1 hm
  have hlt := (List.getElem?_eq_some_iff.1 hi).1
  have := h i (List.mem_range.2 hlt)
  rw [getD_eq_getElem?_getD,hi] at this
  simp at this
 ·intro h i hi
  rw [<- Bool.not_eq_true,List.contains_iff_mem] at h
  intro hc
  have hlt := List.mem_range.1 hi
  rw [getD_eq_getElem?_getD,getElem?_eq_getElem hlt] at hc
  simp at hc
  exact h (hc ▸ List.getElem_mem hlt)
theorem awi : Sub (.agg [.v (.int .i64 0),.v (.slice none 0 0),.v (.slice none 0 0),.v (.int .i64 0)]) (Gr.av default) := .agg (.cons (.refl _) (.cons (.nil _ _ _) (.cons (.nil _ _ _) (.cons (.refl _) .nil)))) rfl
theorem bkb {z : Int} (h : aab .geq z 0 = true) : 0 <= z := of_decide_eq_true h
theorem bmi {z : Int} (h : aab .geq z 0 = false) : ¬ 0 <= z := of_decide_eq_false h
theorem a54 {a b c : Int} : cond (cond (aab .geq a 0) (aab .geq b 0) false) (aab .geq c 0) false = (decide (0 <= a) && decide (0 <= b) && decide (0 <= c)) := by
 have e : ∀ z : Int,aab .geq z 0 = decide (0 <= z) := fun z => rfl
 rw [e,e,e,aiz,aiz]
theorem bh5 {a b : Int} : cond (aab .lss a 0) true (aab .lss b 0) = !(decide (0 <= a) && decide (0 <= b)) := by
 have e : ∀ z : Int,aab .lss z 0 = !decide (0 <= z) := fun z => by rw [<- decide_not]; exact decide_eq_decide.2 (by omega)
 rw [e,e,bdd,Bool.not_and]
theorem blo {a b : Int} (h : cond (aab .lss a 0) true (aab .lss b 0) = true) : (decide (0 <= a) && decide (0 <= b)) = false:=by rw [bh5] at h; exact ajr h
theorem bmu {a b : Int} (h : cond (aab .lss a 0) true (aab .lss b 0) = false) : 0 <= a /\ 0 <= b := by
 rw [bh5] at h
 have := aj0 h
 simpa using this
end Go.Lw
namespace Go.Lw
end Go.Lw
namespace Go.Lw
theorem aju (e : Nat) (l : List Nat) : ack (e :: l) = if e ≠ 0 then e else ack l := rfl
theorem apm {α : Type} {f : α -> Nat} {L : List α} (h : ∀ x ∈ L, f x = 0) : ack (L.map f) = 0 := by
 induction L with
 | nil => rfl
 | cons x L ih =>
  rw [map_cons,aju,if_neg (by rw [h x (mem_cons_self ..)]; simp)]
  exact ih (fun y hy => h y (mem_cons_of_mem _ hy))
def anc (g : Gr) (j : Jt) : Int := if g.bodies.contains j.a = true then (if g.bodies.contains j.b = true then -1 else j.b) else j.a
def a0e (l : Li) (g : Gr) : List Int := g.joints.map (fun j => anc g (l.joints.getD j.toNat default))
theorem a5c (l : Li) (g : Gr) : (a0e l g).length = g.joints.length:=by unfold a0e; rw [length_map]
section
variable {l : Li} {k : Int} {a : As} {own : Bool}
end
theorem bcx (n : Nat) : 4000 <= lm n:=by have := amv n; omega
theorem a7m {k : Int} {n : Nat} (h : cond (aab .lss k 0) true (aab .geq k (n : Int)) = true) : k < 0 \/ (n : Int) <= k := by
 by_cases h1 : k < 0
 ·exact .inl h1
 ·refine .inr ?_
  have h2 : aab .lss k 0 = false := decide_eq_false h1
  rw [h2] at h
  exact of_decide_eq_true (p := k >= n) h
theorem a8q {k : Int} {n : Nat} (h : cond (aab .lss k 0) true (aab .geq k (n : Int)) = false) : ¬ (k < 0 \/ (n : Int) <= k) := by
 intro h1
 by_cases h2 : k < 0
 ·rw [show aab .lss k 0 = true from decide_eq_true h2] at h; cases h
 ·rw [show aab .lss k 0 = false from decide_eq_false h2] at h
  have h3 : ¬ (k >= n) := of_decide_eq_false h
  omega
theorem bba {k : Int} {n : Nat} (h : ¬ (k < 0 \/ (n : Int) <= k)) : ∃ i : Nat,k = i /\ i < n := ⟨k.toNat,by omega,by omega⟩
theorem bbb {a b : Nat} (h : aab .neq (a : Int) (b : Int) = true) : a ≠ b := by
 have h1 : ((a : Int) != (b : Int)) = true := h
 have h2 := bne_iff_ne.1 h1
 omega
theorem ba4 {a b : Nat} (h : aab .neq (a : Int) (b : Int) = false) : a = b := by
 have h1 : ((a : Int) != (b : Int)) = false := h
 have h2 : (a : Int) = b:=by simpa only [bne_eq_false_iff_eq] using h1
 omega
end Go.Lw
namespace Go.Lw
open Go.Proofs
theorem bgv {a : As} (h : AL a) (hc : aev a.rs = 0) : 8 * 4000 + 4 * kB 40000 a.rs.length + 4 <= lm a.rs.length := by
 obtain ⟨tw,_⟩ := acd h.tr hc
 have h3 := tw.three
 rw [aoy] at h3
 have h1 := aso 40000 h3
 have h2 := amv a.rs.length
 show 8 * 4000 + 4 * eB 40000 a.rs.length + 4 <= _
 omega
theorem bco (x y : List Rat) (hx : x = []) (hy : y = []) : Sub (.agg [.v (.slice none 0 0), .v (.slice none 0 0)]) (ptA x y) := by
 subst hx; subst hy
 exact Sub.agg (.cons (.nil _ _ _) (.cons (.nil _ _ _) .nil)) rfl
theorem a32 (rs : List (List Rt)) (r e : Nat) (h : TR rs r) (h1 : aev rs = 0) (b : Pl) (hb : ∀ x ∈ b.l, NR x e) (hc : aal rs b.l = 0) (x y : Rt) (hx : x.ok) (hy : y.ok) (qx : Qb e x.q) (qy : Qb e y.q) (he : 8 * e + 4 * kB r rs.length + 4 <= lm rs.length) :
  FnC prog 181 [agt rs,b.av,x.av,y.av] (ptA (whX rs b x y) (whY rs b x y)) := by
 obtain ⟨tw,etw⟩ := acd h h1
 have pn := a17 h hb hc
 rw [etw,pn.av]
 rw [<- asc rs] at he
 have hlm := ai3 (llq rs).length
 have nx := Nm.ofQ pn.c.five (Cb.one qx)
 have ny := Nm.ofQ pn.c.five (Cb.one qy)
 have nX := ar1 tw pn.c pn.s nx ny
 have nY := aq5 tw pn.c pn.s nx ny
 have z1 : e <= 2 * (e + e + kB r (llq rs).length) + 1:=by omega
 have z2 : 2 * (2 * (e + e + kB r (llq rs).length) + 1) <= lm (llq rs).length := a2f he
 have hadd := a5n tw nX nY (pn.x.mono z1) (pn.y.mono z1) z2
 refine gF0 func181 ?_
 refine gc (aua x y hx hy (qx.qs (by omega)) (qy.qs (by omega))) ?_
 refine gc (az9 tw pn.c pn.s nx ny (by omega)) ?_
 refine gc hadd ?_
 refine gD ?_
 refine gE1 ?_
 rw [a42,a3r]; rfl
theorem bdk (rs : List (List Rt)) : aal rs [] = aev rs := by
 unfold aal
 by_cases h : aev rs = 0
 ·rw [if_neg (by omega),h]; rfl
 ·rw [if_pos h]
theorem bj6 {rs : List (List Rt)} {r e : Nat} (h : TR rs r) (h1 : aev rs = 0) {b : Pl} (hb : ∀ x ∈ b.l, NR x e) (hc : aal rs b.l = 0) {x y : Rt} (qx : Qb e x.q) (qy : Qb e y.q) :
  Nm (llq rs).length (2 * (e + e + kB r (llq rs).length) + 1 + e + 1) (whX rs b x y) /\ Nm (llq rs).length (2 * (e + e + kB r (llq rs).length) + 1 + e + 1) (whY rs b x y) := by
 obtain ⟨tw,etw⟩ := acd h h1
 have pn := a17 h hb hc
 have nx := Nm.ofQ pn.c.five (Cb.one qx)
 have ny := Nm.ofQ pn.c.five (Cb.one qy)
 have h2 := (ar1 tw pn.c pn.s nx ny).add pn.x
 have h3 := (aq5 tw pn.c pn.s nx ny).add pn.y
 rw [a42] at h2
 rw [a3r] at h3
 exact ⟨h2,h3⟩
end Go.Lw
namespace Go.Lw
open Go.Proofs
abbrev fl2 (p : List Rt × List Rt) : List (List Rt) := [p.1,p.2]
abbrev ptR (x y : List Rt) : AV := .agg [nR x,nR y]
theorem avu (ps : List (List Rt × List Rt)) : (ps.flatMap fl2).length = 2 * ps.length := by
 induction ps with
 | nil => rfl
 | cons p ps ih =>
  have h : (fl2 p).length = 2 := rfl
  rw [List.flatMap_cons,length_append,ih,h,length_cons]; omega
theorem aq7 (bs : List Pl) : (bs.flatMap Pl.l).length = 4 * bs.length := by
 induction bs with
 | nil => rfl
 | cons p ps ih =>
  have h : (Pl.l p).length = 4 := rfl
  rw [List.flatMap_cons,length_append,ih,h,length_cons]; omega
theorem awe (vs : List Vr) : (vs.flatMap Vr.l).length = 3 * vs.length := by
 induction vs with
 | nil => rfl
 | cons p ps ih =>
  have h : (Vr.l p).length = 3 := rfl
  rw [List.flatMap_cons,length_append,ih,h,length_cons]; omega
theorem ao3 {α : Type} {f : α -> List (List Rt)} {l : List α} {i : Nat} {x : α} (h : l[i]? = some x) : (l.take (i + 1)).flatMap f = (l.take i).flatMap f ++ f x := by
 rw [aah h,List.flatMap_append]; simp
theorem alk (rs : List (List Rt)) (r e : Nat) (h : TR rs r) (ps : List (List Rt × List Rt)) (hl : ∀ x ∈ ps.flatMap fl2, NR x e) (he : e <= lm rs.length) (hn : ps.length <= 500) : FnC prog 158 [agt rs, .lst 2 (ps.map fun p => ptR p.1 p.2)] (afe (aal rs (ps.flatMap fl2))) := by
 refine gF0 func158 ?_
 refine gl ?_
 refine gW (Wk.virt 900 1 rfl) ?_
 refine gL1 [2,8,9] [2] (fun (i : Nat) => [(5,some (.ms 900 1 0 (2 * i))),(10,some (i64 i))]) (fun i => [(900,some (.row 1 (((ps.take i).flatMap fl2).map nR)))]) (fun i => i <= ps.length) (fun i => ps.length - i) 0 (zero_le _) ?_
 rintro i hi K1 hK1
 refine gC (fun ht11 => ?_) (fun ht11 => ?_) (st2 := (7,0))
 ·have hin : i < ps.length := by simpa [aab] using ht11
  obtain ⟨p,hp⟩ := adg hin
  have hfl : ((ps.take i).flatMap fl2).length = 2 * i:=by rw [avu,length_take]; omega
  refine gi (aap hp) ?_
  refine gs (abq (.tmp rfl) rfl (by rw [length_map,hfl]) (.tmp rfl) T27 rfl T38 rfl rfl (by simp; omega) rfl rfl) ?_ (6,0)
  refine gW (Wk.of (sl := [(2,some (.ptr 2 0)),(5,some (.ms 20 1 0 (2 * i + 2))),(8,some (.lst 2 (ps.map fun p => ptR p.1 p.2))),(9,some (i64 ps.length)),(10,some (i64 i))]) (hp := [(2,some (.box [.lst 1 (rs.map nR)])),(20,some (.row 1 (((ps.take (i + 1)).flatMap fl2).map nR)))]) abu (.cons rfl (.refl _) (.cons rfl (BlkSub.of (by rw [ao3 hp,map_append]; rfl)) .nil))) ?_ (6,0)
  refine gW (Wk.rekey (k := 20) (d := 900) rfl rfl) ?_
  refine ga abl ?_
  exact gK1 hK1 (i + 1) hin
 ·have hin : i = ps.length := by have : ps.length <= i := (by simpa [aab] using ht11); omega
  subst hin
  refine gW ((Wk.freeze (k := 900) rfl).trans <| Wk.of (sl := [(2,some (.ptr 2 0)),(5,some (.lst 1 ((ps.flatMap fl2).map nR)))]) (hp := [(2,some (.box [.lst 1 (rs.map nR)]))]) (.k (.cons rfl (Sub.of (by rw [acb (by rw [length_map,avu,length_take]; omega),take_length])) .nil)) (.cons rfl (.refl _) .nil)) ?_
  refine gc (ajj rs r e h (ps.flatMap fl2) hl he (by rw [avu]; omega)) ?_
  refine gE1 ?_
  first | rfl | (simp; done)
theorem aqb (rs : List (List Rt)) (r e : Nat) (h : TR rs r) (x y : List Rt) (hx : NR x e) (hy : NR y e) (he : e <= lm rs.length) : FnC prog 225 [agt rs, ptR x y] (afe (aal rs [x, y])) := by
 refine gF0 func225 ?_
 refine gc (alk rs r e h [(x,y)] (fun z hz => by have hz' : z ∈ [x,y] := hz; simp only [mem_cons,not_mem_nil,or_false] at hz'; rcases hz' with rfl | rfl <;> assumption) he (by show 1 <= 500; omega)) ?_
 refine gE1 ?_
 first | rfl | (simp; done)
theorem bcs {a : As} {r : List Vr} (vl : VL a r) : ∀ x ∈ a16 a r, NR x 4000 := by
 intro x hx
 rcases List.mem_append.1 hx with h | h
 ·obtain ⟨b,hb,hx⟩ := List.mem_flatMap.1 h; exact vl.al.nr b hb x hx
 ·obtain ⟨b,hb,hx⟩ := List.mem_flatMap.1 h; exact vl.nr b hb x hx
theorem anx (a : As) (r : List Vr) (vl : VL a r) : FnC prog 224 [a.av, .lst 3 (r.map Vr.av)] (afe (ae9 a r)) := by
 have hbl := vl.al.bl
 have hrl := vl.rl
 refine gF0 func224 ?_
 refine gc (afc a.rs 40000 vl.al.tr) ?_
 refine gC (fun ht19 => ?_) (fun ht19 => ?_)
 ·have h1 := acy ht19
  refine gE1 ?_
  rw [a3k h1]
 ·have h1 := ach ht19
  refine gl ?_
  refine gl ?_
  refine gC (fun ht26 => ?_) (fun ht26 => ?_)
  ·have h2 := bbb ht26
   refine gE1 ?_
   rw [a4y h1 h2]; rfl
  ·have h2 := ba4 ht26
   refine gl ?_
   refine gW (Wk.virt 900 1 rfl) ?_
   refine gL1 [1,2,29,30] [2] (fun (i : Nat) => [(6,some (.ms 900 1 0 (4 * i))),(31,some (i64 i))]) (fun i => [(900,some (.row 1 (((a.bs.take i).flatMap Pl.l).map nR)))]) (fun i => i <= a.bs.length) (fun i => a.bs.length - i) 0 (zero_le _) ?_
   rintro i hi K1 hK1
   refine gC (fun ht32 => ?_) (fun ht32 => ?_) (st2 := (12,0))
   ·have hin := acr ht32
    obtain ⟨b,hb⟩ := adg hin
    have hfl : ((a.bs.take i).flatMap Pl.l).length = 4 * i:=by rw [aq7,length_take]; omega
    refine gi (aap hb) ?_
    refine gs (abq (.tmp rfl) rfl (by rw [length_map,hfl]) (.tmp rfl) T27 rfl T38 rfl rfl (by simp; omega) rfl rfl) ?_ (11,0)
    refine gW (Wk.of (sl := [(1,some (.lst 3 (r.map Vr.av))),(2,some (.ptr 2 0)),(6,some (.ms 45 1 0 (4 * i + 4))),(29,some (.lst 4 (a.bs.map Pl.av))),(30,some (i64 a.bs.length)),(31,some (i64 i))]) (hp := [(2,some (.box a.av.cells)),(45,some (.row 1 (((a.bs.take (i + 1)).flatMap Pl.l).map nR)))]) abu (.cons rfl (.refl _) (.cons rfl (BlkSub.of (by rw [ao3 hb,map_append]; rfl)) .nil))) ?_ (11,0)
    refine gW (Wk.rekey (k := 45) (d := 900) rfl rfl) ?_
    refine ga abl ?_
    exact gK1 hK1 (i + 1) hin
   ·have hin := aa8 hi ht32
    subst hin
    refine gW (Wk.of (sl := [(1,some (.lst 3 (r.map Vr.av))),(2,some (.ptr 2 0)),(6,some (.ms 900 1 0 (4 * a.bs.length + 3 * 0)))]) (hp := [(2,some (.box a.av.cells)),(900,some (.row 1 ((a.bs.flatMap Pl.l ++ (r.take 0).flatMap Vr.l).map nR)))]) abu (.cons rfl (.refl _) (.cons rfl (BlkSub.of (by rw [take_length]; simp)) .nil))) ?_
    refine gl ?_
    refine gL1 [2,47,48] [2] (fun (i : Nat) => [(6,some (.ms 900 1 0 (4 * a.bs.length + 3 * i))),(49,some (i64 i))]) (fun i => [(900,some (.row 1 ((a.bs.flatMap Pl.l ++ (r.take i).flatMap Vr.l).map nR)))]) (fun i => i <= r.length) (fun i => r.length - i) 0 (zero_le _) ?_
    rintro i hi K2 hK2
    refine gC (fun ht50 => ?_) (fun ht50 => ?_) (st2 := (17,0))
    ·have hin := acr ht50
     obtain ⟨v,hv⟩ := adg hin
     have hfl : (a.bs.flatMap Pl.l ++ (r.take i).flatMap Vr.l).length = 4 * a.bs.length + 3 * i:=by rw [length_append,aq7,awe,length_take]; omega
     refine gi (aap hv) ?_
     refine gs (abq (.tmp rfl) rfl (by rw [length_map,hfl]) (.tmp rfl) T27 rfl T38 rfl rfl (by simp; omega) rfl rfl) ?_ (16,0)
     refine gW (Wk.of (sl := [(2,some (.ptr 2 0)),(6,some (.ms 61 1 0 (4 * a.bs.length + 3 * i + 3))),(47,some (.lst 3 (r.map Vr.av))),(48,some (i64 r.length)),(49,some (i64 i))]) (hp := [(2,some (.box a.av.cells)),(61,some (.row 1 ((a.bs.flatMap Pl.l ++ (r.take (i + 1)).flatMap Vr.l).map nR)))]) abu (.cons rfl (.refl _) (.cons rfl (BlkSub.of (by rw [ao3 hv,<- append_assoc,map_append (l₂ := v.l)]; rfl)) .nil))) ?_ (16,0)
     refine gW (Wk.rekey (k := 61) (d := 900) rfl rfl) ?_
     refine ga abl ?_
     exact gK1 hK2 (i + 1) hin
    ·have hin := aa8 hi ht50
     subst hin
     refine gW ((Wk.freeze (k := 900) rfl).trans <| Wk.of (sl := [(2,some (.ptr 2 0)),(6,some (.lst 1 ((a16 a r).map nR)))]) (hp := [(2,some (.box a.av.cells))]) (.k (.cons rfl (Sub.of (by rw [acb (by rw [length_map,length_append,aq7,awe,length_take]; omega),take_length]; rfl)) .nil)) (.cons rfl (.refl _) .nil)) ?_
     refine gl ?_
     have hvl : (a16 a r).length = 4 * a.bs.length + 3 * r.length:=by show (a.bs.flatMap Pl.l ++ r.flatMap Vr.l).length = _; rw [length_append,aq7,awe]
     refine gL1 [2,63,64] [2] (fun (i : Nat) => [(65,some (i64 i))]) (fun _ => []) (fun i => i <= (a16 a r).length /\ ∀ x ∈ (a16 a r).take i,afp a.rs.length x = 0) (fun i => (a16 a r).length - i) 0 ⟨zero_le _,fun x hx => by simp at hx⟩ ?_
     rintro i ⟨hi,hj⟩ K3 hK3
     refine gC (fun ht66 => ?_) (fun ht66 => ?_)
     ·have hin := acr ht66
      obtain ⟨x,hx⟩ := adg hin
      have hok := bcs vl x (mem_of_getElem? hx)
      have hone : aal a.rs [x] = afp a.rs.length x := ar2 h1
      refine gi (aap hx) ?_
      refine gc (ajw a.rs 40000 vl.al.tr x 4000 hok (bcx _)) ?_
      refine gC (fun ht77 => ?_) (fun ht77 => ?_)
      ·have h3 := acy ht77
       refine gE1 ?_
       rw [hone] at h3 ⊢; rw [ak1 h1 h2,anq h1 hx hj h3]
      ·have h3 := ach ht77
       rw [hone] at h3
       refine ga abl ?_
       exact gK1 hK3 (i + 1) ⟨hin,fun z hz => by rw [aah hx] at hz; rcases List.mem_append.1 hz with h9 | h9; exact hj z h9; (rw [List.mem_singleton.1 h9]; exact h3)⟩
     ·have hin := aa8 hi ht66
      rw [hin,take_length] at hj
      refine gE1 ?_
      rw [ak1 h1 h2,ae7 h1 hj]; rfl
theorem atf (a : As) (r : List Vr) (vl : VL a r) : FnC prog 46 [a.av, .lst 3 (r.map Vr.av)] (i64 (ae9 a r)) := by
 have hbl := vl.al.bl
 have hrl := vl.rl
 refine gF0 func46 ?_
 refine gc (Con.subA (.cons (.refl _) (.cons (Sub.nil 1 none 0) .nil)) (alh a.rs 40000 0 vl.al.tr [] (fun x hx => by cases hx) (zero_le _) (by show 0 <= 1000; omega))) ?_
 refine gC (fun ht16 => ?_) (fun ht16 => ?_)
 ·have h1 := ah0 ht16
  rw [bdk] at h1
  refine gE1 ?_
  rw [a3k h1,bdk]
 ·have h1 := ahu ht16
  rw [bdk] at h1
  refine gl ?_
  refine gl ?_
  refine gC (fun ht23 => ?_) (fun ht23 => ?_)
  ·have h2 := bbb ht23
   refine gE1 ?_
   rw [a4y h1 h2]; rfl
  ·have h2 := ba4 ht23
   refine gl ?_
   refine gL1 [1,2,25,26] [2] (fun (i : Nat) => [(27,some (i64 i))]) (fun _ => []) (fun i => i <= a.bs.length /\ ∀ b ∈ a.bs.take i,aal a.rs b.l = 0) (fun i => a.bs.length - i) 0 ⟨zero_le _,fun x hx => by simp at hx⟩ ?_
   rintro i ⟨hi,hj⟩ K1 hK1
   refine gC (fun ht28 => ?_) (fun ht28 => ?_)
   ·have hin := acr ht28
    obtain ⟨b,hb⟩ := adg hin
    refine gi (aap hb) ?_
    refine gc (alh a.rs 40000 4000 vl.al.tr b.l (vl.al.nr b (mem_of_getElem? hb)) (bcx _) (by show 4 <= 1000; omega)) ?_
    refine gC (fun ht44 => ?_) (fun ht44 => ?_)
    ·have h3 := ah0 ht44
     refine gE1 ?_
     rw [bl2 h1 h2 hb hj h3]
    ·have h3 := ahu ht44
     refine ga abl ?_
     exact gK1 hK1 (i + 1) ⟨hin,fun y hy => by rw [aah hb] at hy; rcases List.mem_append.1 hy with h9 | h9; exact hj y h9; (rw [List.mem_singleton.1 h9]; exact h3)⟩
   ·have hin := aa8 hi ht28
    rw [hin,take_length] at hj
    refine gl ?_
    refine gL1 [2,47,48] [2] (fun (i : Nat) => [(49,some (i64 i))]) (fun _ => []) (fun i => i <= r.length /\ ∀ b ∈ r.take i,aal a.rs b.l = 0) (fun i => r.length - i) 0 ⟨zero_le _,fun x hx => by simp at hx⟩ ?_
    rintro i ⟨hk,hkj⟩ K2 hK2
    refine gC (fun ht50 => ?_) (fun ht50 => ?_)
    ·have hkn := acr ht50
     obtain ⟨v,hv⟩ := adg hkn
     refine gi (aap hv) ?_
     refine gc (alh a.rs 40000 4000 vl.al.tr v.l (vl.nr v (mem_of_getElem? hv)) (bcx _) (by show 3 <= 1000; omega)) ?_
     refine gC (fun ht64 => ?_) (fun ht64 => ?_)
     ·have h3 := ah0 ht64
      refine gE1 ?_
      rw [blc h1 h2 hj hv hkj h3]
     ·have h3 := ahu ht64
      refine ga abl ?_
      exact gK1 hK2 (i + 1) ⟨hkn,fun y hy => by rw [aah hv] at hy; rcases List.mem_append.1 hy with h9 | h9; exact hkj y h9; (rw [List.mem_singleton.1 h9]; exact h3)⟩
    ·have hkn := aa8 hk ht50
     rw [hkn,take_length] at hkj
     refine gE1 ?_
     rw [bkk h1 h2 hj hkj]; rfl
theorem bha {a : As} {r : List Vr} (h : a.bs.all (fun b => ai4 a.rs b.l) = true) (h2 : r.all (fun b => ai4 a.rs b.l) = true) :
  cond (cond (cond (aab .leq (a.bs.length : Int) 20) (aab .leq (r.length : Int) 20) false) (ai4 a.rs []) false) (cond (aab .leq (a.rs.length : Int) 2) true (aab .gtr (a.rs.length : Int) 5)) false = vlB a r := by
 have e1 := a7y (n := a.bs.length) (k := 20)
 have e4 := a7y (n := r.length) (k := 20)
 have e2 := a7y (n := a.rs.length) (k := 2)
 have e3 := a7p (n := a.rs.length) (k := 5)
 unfold vlB
 rw [h,h2,Bool.true_and,Bool.true_and]
 rw [show aab .leq (a.bs.length : Int) 20 = decide (a.bs.length <= 20) from e1,show aab .leq (r.length : Int) 20 = decide (r.length <= 20) from e4,show aab .leq (a.rs.length : Int) 2 = decide (a.rs.length <= 2) from e2,show aab .gtr (a.rs.length : Int) 5 = decide (5 < a.rs.length) from e3]
 cases ai4 a.rs [] <;> by_cases c1 : a.bs.length <= 20 <;> by_cases c2 : r.length <= 20 <;> by_cases c3 : a.rs.length <= 2 <;> by_cases c4 : 5 < a.rs.length <;> simp [c1,c2,c3,c4]
theorem aph (a : As) (ha : a.ok) (r : List Vr) (hr : ∀ x ∈ r, ai2 x.l) (hrl : r.length <= 281474976710656) : FnC prog 42 [a.av, .lst 3 (r.map Vr.av)] (bl (vlB a r)) := by
 have hbl := ha.bl
 refine gF0 func42 ?_
 refine gl ?_
 refine gL1 [1,2,10,11] [2] (fun (i : Nat) => [(12,some (i64 i))]) (fun _ => []) (fun i => i <= a.bs.length /\ (a.bs.take i).all (fun b => ai4 a.rs b.l) = true) (fun i => a.bs.length - i) 0 ⟨zero_le _,rfl⟩ ?_
 rintro i ⟨hi,hj⟩ K1 hK1
 refine gC (fun ht13 => ?_) (fun ht13 => ?_)
 ·have hin := acr ht13
  obtain ⟨b,hb⟩ := adg hin
  have hbo := ha.bs b (mem_of_getElem? hb)
  refine gi (aap hb) ?_
  refine gc (al4 a.rs b.l ha.rs hbo ha.rl (by show 4 <= 100; omega)) ?_
  refine gC (fun ht28 => ?_) (fun ht28 => ?_)
  ·have h1 := ajr ht28
   refine gE1 ?_
   unfold vlB; rw [af1 hb h1]; rfl
  ·have h1 := aj0 ht28
   refine ga abl ?_
   exact gK1 hK1 (i + 1) ⟨hin,ako hj hb h1⟩
 ·have hall := aox (aa8 hi ht13) hj
  refine gl ?_
  refine gL1 [1,2,30,31] [2] (fun (i : Nat) => [(32,some (i64 i))]) (fun _ => []) (fun i => i <= r.length /\ (r.take i).all (fun b => ai4 a.rs b.l) = true) (fun i => r.length - i) 0 ⟨zero_le _,rfl⟩ ?_
  rintro i ⟨hk,hkj⟩ K2 hK2
  refine gC (fun ht33 => ?_) (fun ht33 => ?_)
  ·have hkn := acr ht33
   obtain ⟨v,hv⟩ := adg hkn
   have hvo := hr v (mem_of_getElem? hv)
   refine gi (aap hv) ?_
   refine gc (al4 a.rs v.l ha.rs hvo ha.rl (by show 3 <= 100; omega)) ?_
   refine gC (fun ht46 => ?_) (fun ht46 => ?_)
   ·have h1 := ajr ht46
    refine gE1 ?_
    unfold vlB; rw [hall,af1 hv h1]; rfl
   ·have h1 := aj0 ht46
    refine ga abl ?_
    exact gK1 hK2 (i + 1) ⟨hkn,ako hkj hv h1⟩
  ·have hall2 := aox (aa8 hk ht33) hkj
   refine gl ?_
   refine glG ?_
   refine gcG (fun _ => (Con.subA (.cons (.refl _) (.cons (Sub.nil 1 none 0) .nil)) (al4 a.rs [] ha.rs a39 ha.rl (by show 0 <= 100; omega)))) ?_
   refine glG ?_
   refine glG ?_
   refine gE1 ?_
   exact congrArg bl (bha hall hall2)
end Go.Lw
namespace Go.Lw
theorem a18 {r : (k : Nat) -> T k} {n : Nat} (p q : Rat) : (qE (p + q) : E r n) = qE p + qE q := T.ofQ_add n p q
theorem a5w {rs : List (List Rt)} {r : Nat} (h : TR rs r) (hc : aev rs = 0) : aez (llq rs) = .agg [.lst 1 (rs.map nR)] := (acd h hc).2.symm
theorem aq4 {q : Rat} {e w : Nat} (h : Qb e q) (he : e <= w * 4000) : Qz 4000 q w := ⟨(Cb.one h).mono he⟩
end Go.Lw
namespace Go.Lw
open Go.Proofs
abbrev mvB (rs : List (List Rt)) : Blk := .box [.lst 1 (rs.map nR),.v .nilIface]
theorem anv (rs : List (List Rt)) (a : List Rat) : Con prog 392 [.ptr 1000 0, nA a, .v .nilIface] [(1000, some (mvB rs))] (nA a) [(1000, some (mvB rs))] := by
 refine gF func392 (fun k z h => aex h) ?_
 refine gC (fun ht11 => ?_) (fun ht11 => ?_) (st2 := (77777,0))
 ·refine gR ?_
  exact Fin.keep (aly rfl)
 ·cases ht11
section
variable {rs : List (List Rt)} {r u k : Nat} {a b c d e : List Rat} {x y z s t : Et (llq rs)} {w v w' v' w2 v2 w3 v3 w4 v4 : Nat}
theorem axy (h : TR rs r) (hc : aev rs = 0) [c0 : Ct (llq rs) u k] [ha : Zl (llq rs) u k a x w v] [hb : Zl (llq rs) u k b y w' v'] (hs : w + v + (w' + v') <= 10000 := by decide) :
  Con prog 324 [.ptr 1000 0,nA a,nA b] [(1000,some (mvB rs))] (nA (sX (x * y))) [(1000,some (mvB rs))] := by
 have hx := bbn (ha := ha) (hb := hb) hs
 rw [a5w h hc] at hx
 refine gF func324 (fun k z h => aex h) ?_
 refine gc hx ?_
 refine gt (aam (anv _ _) (.cons (.tmp rfl) (.cons (.tmp rfl) (.cons (.tmp rfl) .nil))) (by first | exact hH0 | exact hH1 rfl | exact hH2 rfl rfl) rfl rfl) ?_
 refine gR ?_
 exact Fin.keep (aly rfl)
theorem a6x (h : TR rs r) (hc : aev rs = 0) [c0 : Ct (llq rs) u k] [ha : Zl (llq rs) u k a x w v] [hb : Zl (llq rs) u k b y w' v'] (hs : w + v + (w' + v') <= 10000 := by decide) :
  Con prog 325 [.ptr 1000 0,nA a,nA b] [(1000,some (mvB rs))] (nA (sX (x + y))) [(1000,some (mvB rs))] := by
 have hx := a8g (ha := ha) (hb := hb) hs
 rw [a5w h hc] at hx
 refine gF func325 (fun k z h => aex h) ?_
 refine gc hx ?_
 refine gt (aam (anv _ _) (.cons (.tmp rfl) (.cons (.tmp rfl) (.cons (.tmp rfl) .nil))) (by first | exact hH0 | exact hH1 rfl | exact hH2 rfl rfl) rfl rfl) ?_
 refine gR ?_
 exact Fin.keep (aly rfl)
theorem a6n (h : TR rs r) (hc : aev rs = 0) [c0 : Ct (llq rs) u k] [ha : Zl (llq rs) u k a x w v] [hb : Zl (llq rs) u k b y w' v'] (hs : w + v + (w' + v') <= 10000 := by decide) :
  Con prog 323 [.ptr 1000 0,nA a,nA b] [(1000,some (mvB rs))] (nA (sX (x - y))) [(1000,some (mvB rs))] := by
 have hx := bgm (ha := ha) (hb := hb) hs
 rw [a5w h hc] at hx
 refine gF func323 (fun k z h => aex h) ?_
 refine gc hx ?_
 refine gt (aam (anv _ _) (.cons (.tmp rfl) (.cons (.tmp rfl) (.cons (.tmp rfl) .nil))) (by first | exact hH0 | exact hH1 rfl | exact hH2 rfl rfl) rfl rfl) ?_
 refine gR ?_
 exact Fin.keep (aly rfl)
theorem bby (h : TR rs r) (hc : aev rs = 0) [c0 : Ct (llq rs) u k] [ha : Zl (llq rs) u k a x w v] [hb : Zl (llq rs) u k b y w' v'] [hc2 : Zl (llq rs) u k c z w2 v2] [hd : Zl (llq rs) u k d s w3 v3] [he : Zl (llq rs) u k e t w4 v4]
  (hs : w + v + (w' + v' + (w2 + v2)) + (w3 + v3 + (w4 + v4)) <= 1000) :
  Con prog 226 [.ptr 1000 0,.agg [nA a,nA b,nA c],ptA d e] [(1000,some (mvB rs))] (ptA (sX (y - x * t)) (sX (z + x * s))) [(1000,some (mvB rs))] := by
 haveI i1 := ha.zu
 haveI i2 := hb.zu
 haveI i3 := hc2.zu
 haveI i4 := hd.zu
 haveI i5 := he.zu
 refine gF func226 (fun k z h => aex h) ?_
 refine gt (aam (axy (ha := ha) (hb := he) h hc (by omega)) (.cons (.tmp rfl) (.cons (.tmp rfl) (.cons (.tmp rfl) .nil))) (by first | exact hH0 | exact hH1 rfl | exact hH2 rfl rfl) rfl rfl) ?_
 refine gt (aam (a6n (ha := hb) (b := sX (x * t)) (y := x * t) h hc (by omega)) (.cons (.tmp rfl) (.cons (.tmp rfl) (.cons (.tmp rfl) .nil))) (by first | exact hH0 | exact hH1 rfl | exact hH2 rfl rfl) rfl rfl) ?_
 refine gt (aam (axy (ha := ha) (hb := hd) h hc (by omega)) (.cons (.tmp rfl) (.cons (.tmp rfl) (.cons (.tmp rfl) .nil))) (by first | exact hH0 | exact hH1 rfl | exact hH2 rfl rfl) rfl rfl) ?_
 refine gt (aam (a6x (ha := hc2) (b := sX (x * s)) (y := x * s) h hc (by omega)) (.cons (.tmp rfl) (.cons (.tmp rfl) (.cons (.tmp rfl) .nil))) (by first | exact hH0 | exact hH1 rfl | exact hH2 rfl rfl) rfl rfl) ?_
 refine gD ?_
 refine gR ?_
 exact Fin.keep (aly rfl)
theorem a7o {ts : List (List Rat)} {x y z s t : Et ts} [c0 : Ct ts u k] [ha : Zl ts u k a x w v] [hb : Zl ts u k b y w' v'] [hc2 : Zl ts u k c z w2 v2] [hd : Zl ts u k d s w3 v3] [he : Zl ts u k e t w4 v4]
  (hs : w + v + (w' + v' + (w2 + v2)) + (w3 + v3 + (w4 + v4)) <= 1000) :
  FnC prog 232 [aez ts,.agg [nA a,nA b,nA c],ptA d e] (ptA (sX (y - x * t)) (sX (z + x * s))) := by
 haveI i1 := ha.zu
 haveI i2 := hb.zu
 haveI i3 := hc2.zu
 haveI i4 := hd.zu
 haveI i5 := he.zu
 refine gF0 func232 ?_
 refine gc (arb (ha := ha) (hb := he) (by omega)) ?_
 refine gc (a8e (ha := hb) (b := sX (x * t)) (y := x * t) (by omega)) ?_
 refine gc (arb (ha := ha) (hb := hd) (by omega)) ?_
 refine gc (an0 (ha := hc2) (b := sX (x * s)) (y := x * s) (by omega)) ?_
 refine gD ?_
 refine gE1 ?_
 first | rfl | (simp; done)
end
structure VZ (rs : List (List Rt)) (v : Vr) : Prop where
  av : v.av = .agg [nA (lq v.w),nA (lq v.x),nA (lq v.y)]
  w : Zl (llq rs) 4000 300000 (lq v.w) (dE (llq rs) (lq v.w)) 1 0
  x : Zl (llq rs) 4000 300000 (lq v.x) (dE (llq rs) (lq v.x)) 1 0
  y : Zl (llq rs) 4000 300000 (lq v.y) (dE (llq rs) (lq v.y)) 1 0
theorem bc3 {a : As} {r : List Vr} (vl : VL a r) (h : ae9 a r = 0) {v : Vr} (hv : v ∈ r) : VZ a.rs v := by
 have ok := ad1 h
 have c := vl.al.ct ok.chk
 obtain ⟨_,h2⟩ := adk (ok.rs v hv)
 have n := vl.nr v hv
 have e1 : ∀ x ∈ v.l,nR x = nA (lq x) := fun x hx => ((n x hx).num (h2 x hx)).1
 have e2 : ∀ x ∈ v.l,Zl (llq a.rs) 4000 300000 (lq x) (dE (llq a.rs) (lq x)) 1 0 := fun x hx => a1c c (n x hx) (h2 x hx) (by omega)
 refine ⟨?_,e2 _ (by simp [Vr.l]),e2 _ (by simp [Vr.l]),e2 _ (by simp [Vr.l])⟩
 unfold Vr.av
 rw [e1 _ (by simp [Vr.l]),e1 _ (by simp [Vr.l]),e1 _ (by simp [Vr.l])]
structure PZ (rs : List (List Rt)) (px py : List Rt) : Prop where
  av : ptR px py = ptA (lq px) (lq py)
  x : Zl (llq rs) 4000 300000 (lq px) (dE (llq rs) (lq px)) 40 40
  y : Zl (llq rs) 4000 300000 (lq py) (dE (llq rs) (lq py)) 40 40
theorem bic {rs : List (List Rt)} (c : Ct (llq rs) 4000 300000) {px py : List Rt} {e : Nat} (hp : NR px e) (hq : NR py e) (he : e <= 12160000) (h : aal rs [px, py] = 0) : PZ rs px py := by
 obtain ⟨_,h2⟩ := adk h
 have n1 := h2 px (by simp)
 have n2 := h2 py (by simp)
 refine ⟨?_,a1c c hp n1 (by omega),a1c c hq n2 (by omega)⟩
 show AV.agg [nR px,nR py] = _
 rw [(hp.num n1).1,(hq.num n2).1]; rfl
theorem bi6 {a : As} {r : List Vr} (vl : VL a r) (h : ae9 a r = 0) {v : Vr} (hv : v ∈ r) {px py : List Rt} (pz : PZ a.rs px py) :
  Con prog 226 [.ptr 1000 0,v.av,ptR px py] [(1000,some (mvB a.rs))] (ptA (vaX (llq a.rs) (lq v.w) (lq v.x) (lq py)) (vaY (llq a.rs) (lq v.w) (lq v.y) (lq px))) [(1000,some (mvB a.rs))] := by
 have vz := bc3 vl h hv
 haveI c := vl.al.ct (ad1 h).chk
 rw [vz.av,pz.av]
 exact bby (ha := vz.w) (hb := vz.x) (hc2 := vz.y) (hd := pz.x) (he := pz.y) vl.al.tr (ad1 h).chk (by decide)
theorem bbd {a : As} {r : List Vr} (vl : VL a r) (h : ae9 a r = 0) {v : Vr} (hv : v ∈ r) {px py : List Rt} (pz : PZ a.rs px py) :
  FnC prog 232 [agt a.rs,v.av,ptR px py] (ptA (vaX (llq a.rs) (lq v.w) (lq v.x) (lq py)) (vaY (llq a.rs) (lq v.w) (lq v.y) (lq px))) := by
 have vz := bc3 vl h hv
 haveI c := vl.al.ct (ad1 h).chk
 rw [vz.av,pz.av,(acd vl.al.tr (ad1 h).chk).2]
 exact a7o (ha := vz.w) (hb := vz.x) (hc2 := vz.y) (hd := pz.x) (he := pz.y) (by decide)
theorem a4g (x y : List Rat) (e : Nat) (hx : x = []) (hy : y = []) (z : AV) (hz : z = afe e) : Sub (.tup [.agg [.v (.slice none 0 0), .v (.slice none 0 0)], z]) (.tup [ptA x y, afe e]) := by
 subst hz
 exact Sub.tup (.cons (bco _ _ hx hy) (.cons (.refl _) .nil))
def ber (a : As) (r : List Vr) (k : Int) (px py : List Rt) : List Rat := if amw a r k px py = 0 then vrX a r k py else []
def bev (a : As) (r : List Vr) (k : Int) (px py : List Rt) : List Rat := if amw a r k px py = 0 then vrY a r k px else []
abbrev vaP (a : As) (r : List Vr) (k : Int) (px py : List Rt) : AV := .agg [nA (ber a r k px py),nA (bev a r k px py)]
theorem bk7 {a : As} {r : List Vr} {k : Int} {px py : List Rt} (h : amw a r k px py ≠ 0) : ber a r k px py = [] := if_neg h
theorem bma {a : As} {r : List Vr} {k : Int} {px py : List Rt} (h : amw a r k px py ≠ 0) : bev a r k px py = [] := if_neg h
theorem bhy {a : As} {r : List Vr} {i : Nat} {v : Vr} {px py : List Rt} (h : amw a r i px py = 0) (hv : r[i]? = some v) : ber a r i px py = vaX (llq a.rs) (lq v.w) (lq v.x) (lq py) := by
 unfold ber vrX; rw [if_pos h,Int.toNat_natCast,abc hv]
theorem bgo {a : As} {r : List Vr} {i : Nat} {v : Vr} {px py : List Rt} (h : amw a r i px py = 0) (hv : r[i]? = some v) : bev a r i px py = vaY (llq a.rs) (lq v.w) (lq v.y) (lq px) := by
 unfold bev vrY; rw [if_pos h,Int.toNat_natCast,abc hv]
theorem aw2 {a : As} {r : List Vr} {k : Int} {px py : List Rt} {e : Nat} (he : amw a r k px py = e) (h : e ≠ 0) : Sub (.tup [.agg [.v (.slice none 0 0), .v (.slice none 0 0)], afe e]) (.tup [vaP a r k px py, afe (amw a r k px py)]) := by
 subst he; exact a4g _ _ _ (bk7 h) (bma h) _ rfl
theorem ayg (a : As) (r : List Vr) (vl : VL a r) (k : Int) (px py : List Rt) (e : Nat) (hp : NR px e) (hq : NR py e) (he : e <= 12160000) :
  FnC prog 123 [a.av,.lst 3 (r.map Vr.av),i64 k,ptR px py] (.tup [vaP a r k px py,afe (amw a r k px py)]) := by
 have hrl := vl.rl
 refine gF0 func123 ?_
 refine gc (anx a r vl) ?_
 refine gC (fun ht18 => ?_) (fun ht18 => ?_)
 ·have h1 := acy ht18
  refine gR ?_
  exact acl (aw2 (bmy h1) h1)
 ·have h1 := ach ht18
  refine glG ?_
  refine gC (fun ht28 => ?_) (fun ht28 => ?_)
  ·have h2 := a7m ht28
   refine gR ?_
   exact acl (aw2 (bmh h1 h2) (by decide))
  ·have h2 := a8q ht28
   have h3 := bjo (px := px) (py := py) h1 h2
   refine gc (aqb a.rs 40000 e vl.al.tr px py hp hq (by have := amv a.rs.length; omega)) ?_
   refine gC (fun ht36 => ?_) (fun ht36 => ?_)
   ·have h4 := acy ht36
    refine gR ?_
    exact acl (aw2 h3 h4)
   ·have h4 := ach ht36
    have pz := bic (vl.al.ct (ad1 h1).chk) hp hq he h4
    obtain ⟨i,rfl,hi⟩ := bba h2
    obtain ⟨v,hv⟩ := adg hi
    refine gi (aap hv) ?_
    refine gt (aam (Con.rekeyB 42 rfl rfl rfl rfl (bi6 vl h1 (mem_of_getElem? hv) pz)) (.cons (.tmp rfl) (.cons (.tmp rfl) (.cons (.tmp rfl) .nil))) (by first | exact hH0 | exact hH1 rfl | exact hH2 rfl rfl) rfl rfl) ?_
    refine gD ?_
    refine gC (fun ht54 => ?_) (fun ht54 => ?_) (st1 := (12,0))
    ·cases ht54
    ·refine gE2 ?_
     show _ = AV.tup [AV.agg [nA (ber a r (i : Nat) px py),nA (bev a r (i : Nat) px py)],_]; rw [bhy (h3.trans h4) hv,bgo (h3.trans h4) hv,h3,h4]; rfl
def vpE (a : As) (r : List Vr) (k : Int) : Nat := if ae9 a r ≠ 0 then ae9 a r else if k < 0 \/ (r.length : Int) <= k then 9 else 0
theorem bnr {a : As} {r : List Vr} {k : Int} (h : ae9 a r ≠ 0) : vpE a r k = ae9 a r:=by unfold vpE; rw [if_pos h]
theorem bnl {a : As} {r : List Vr} {k : Int} (h : ae9 a r = 0) (hk : k < 0 \/ (r.length : Int) <= k) : vpE a r k = 9:=by unfold vpE; rw [if_neg (by omega),if_pos hk]
theorem bm9 {a : As} {r : List Vr} {k : Int} (h : ae9 a r = 0) (hk : ¬ (k < 0 \/ (r.length : Int) <= k)) : vpE a r k = 0:=by unfold vpE; rw [if_neg (by omega),if_neg hk]
theorem bnb {a : As} {r : List Vr} {k : Int} (h : vpE a r k = 0) : ∃ (i : Nat) (v : Vr) (b : Pl), k = (i : Int) /\ r[i]? = some v /\ a.bs[i]? = some b /\ ae9 a r = 0 := by
 unfold vpE at h
 split at h
 ·rename_i h1; exact absurd h h1
 ·split at h
  ·cases h
  ·rename_i h1 h2
   obtain ⟨i,rfl,hi⟩ := bba h2
   obtain ⟨v,hv⟩ := adg hi
   have h1 := Decidable.not_not.1 h1
   obtain ⟨b,hb⟩ := adg (show i < a.bs.length by rw [<- (ad1 h1).len]; exact hi)
   exact ⟨i,v,b,rfl,hv,hb,h1⟩
abbrev auy (rs : List (List Rt)) (b : Pl) (x y : Rt) : List Rt := (whX rs b x y).map rt
abbrev auz (rs : List (List Rt)) (b : Pl) (x y : Rt) : List Rt := (whY rs b x y).map rt
theorem bju (rs : List (List Rt)) (b : Pl) (x y : Rt) : ptR (auy rs b x y) (auz rs b x y) = ptA (whX rs b x y) (whY rs b x y) := by
 show AV.agg [nR _,nR _] = _
 rw [aec,aec]; rfl
theorem a95 {a : As} (al : AL a) (h1 : aev a.rs = 0) {b : Pl} (hb : ∀ x ∈ b.l, NR x 4000) (hc : aal a.rs b.l = 0) {x y : Rt} (qx : Qb 4000 x.q) (qy : Qb 4000 y.q) :
  NR (auy a.rs b x y) 12160000 /\ NR (auz a.rs b x y) 12160000 /\ aal a.rs [auy a.rs b x y,auz a.rs b x y] = 0 := by
 obtain ⟨nx,ny⟩ := bj6 al.tr h1 hb hc qx qy
 have hlm := amv (llq a.rs).length
 have hk : kB 40000 (llq a.rs).length <= 300000 := by
  obtain ⟨tw,_⟩ := acd al.tr h1
  exact le_trans (aso 40000 tw.three) (by omega)
 have nx := nx.mono (f := 12160000) (by omega)
 have ny := ny.mono (f := 12160000) (by omega)
 refine ⟨nx.rt (by omega),ny.rt (by omega),ae7 h1 fun z hz => ?_⟩
 simp only [mem_cons,not_mem_nil,or_false] at hz
 rw [<- aoy a.rs]
 rcases hz with rfl | rfl
 ·exact ape nx.nl
 ·exact ape ny.nl
def bez (a : As) (r : List Vr) (k : Int) (x y : Rt) : List Rat := if vpE a r k = 0 then vrX a r k (auz a.rs (a.bs.getD k.toNat default) x y) else []
def bew (a : As) (r : List Vr) (k : Int) (x y : Rt) : List Rat := if vpE a r k = 0 then vrY a r k (auy a.rs (a.bs.getD k.toNat default) x y) else []
abbrev vpP (a : As) (r : List Vr) (k : Int) (x y : Rt) : AV := .agg [nA (bez a r k x y),nA (bew a r k x y)]
theorem bk0 {a : As} {r : List Vr} {k : Int} {x y : Rt} (h : vpE a r k ≠ 0) : bez a r k x y = [] := if_neg h
theorem bk1 {a : As} {r : List Vr} {k : Int} {x y : Rt} (h : vpE a r k ≠ 0) : bew a r k x y = [] := if_neg h
theorem bf5 {a : As} {r : List Vr} {i : Nat} {v : Vr} {b : Pl} {x y : Rt} (h : vpE a r i = 0) (hv : r[i]? = some v) (hb : a.bs[i]? = some b) : bez a r i x y = vaX (llq a.rs) (lq v.w) (lq v.x) (lq (auz a.rs b x y)) := by
 unfold bez vrX; rw [if_pos h,Int.toNat_natCast,abc hv,abc hb]
theorem bjf {a : As} {r : List Vr} {i : Nat} {v : Vr} {b : Pl} {x y : Rt} (h : vpE a r i = 0) (hv : r[i]? = some v) (hb : a.bs[i]? = some b) : bew a r i x y = vaY (llq a.rs) (lq v.w) (lq v.y) (lq (auy a.rs b x y)) := by
 unfold bew vrY; rw [if_pos h,Int.toNat_natCast,abc hv,abc hb]
theorem a41 {a : As} {r : List Vr} {k : Int} {x y : Rt} {e : Nat} (he : vpE a r k = e) (h : e ≠ 0) : Sub (.tup [.agg [.v (.slice none 0 0), .v (.slice none 0 0)], afe e]) (.tup [vpP a r k x y, afe (vpE a r k)]) := by
 subst he; exact a4g _ _ _ (bk0 h) (bk1 h) _ rfl
theorem au7 (a : As) (r : List Vr) (vl : VL a r) (k : Int) (x y : Rt) (hx : x.ok) (hy : y.ok) (qx : Qb 4000 x.q) (qy : Qb 4000 y.q) :
  FnC prog 328 [a.av,.lst 3 (r.map Vr.av),i64 k,x.av,y.av] (.tup [vpP a r k x y,afe (vpE a r k)]) := by
 have hrl := vl.rl
 refine gF0 func328 ?_
 refine gc (anx a r vl) ?_
 refine gC (fun ht19 => ?_) (fun ht19 => ?_)
 ·have h1 := acy ht19
  refine gR ?_
  exact acl (a41 (bnr h1) h1)
 ·have h1 := ach ht19
  refine glG ?_
  refine gC (fun ht29 => ?_) (fun ht29 => ?_)
  ·have h2 := a7m ht29
   refine gR ?_
   exact acl (a41 (bnl h1 h2) (by decide))
  ·have h2 := a8q ht29
   have h3 := bm9 h1 h2
   obtain ⟨i,v,b,rfl,hv,hb,_⟩ := bnb h3
   have hbm := mem_of_getElem? hb
   have hnr := vl.al.nr b hbm
   have h6 := (ad1 h1).chk
   have h7 := (ad1 h1).bs b hbm
   obtain ⟨nx,ny,hc⟩ := a95 vl.al h6 hnr h7 qx qy
   have hpA := av4 a.rs 40000 4000 vl.al.tr h6 b hnr x y hx hy qx qy (bgv vl.al h6)
   rw [if_pos h7,if_pos h7,h7,<- bju] at hpA
   have hvA := ayg a r vl i _ _ _ nx ny (le_refl _)
   have hva : amw a r i (auy a.rs b x y) (auz a.rs b x y) = 0:=by rw [bjo h1 h2]; exact hc
   have hvA : FnC prog 123 [a.av,.lst 3 (r.map Vr.av),i64 (i : Nat),ptR (auy a.rs b x y) (auz a.rs b x y)] (.tup [.agg [nA (ber a r (i : Nat) (auy a.rs b x y) (auz a.rs b x y)),nA (bev a r (i : Nat) (auy a.rs b x y) (auz a.rs b x y))],afe (amw a r (i : Nat) (auy a.rs b x y) (auz a.rs b x y))]) := hvA
   rw [bhy hva hv,bgo hva hv,hva] at hvA
   refine gi (aap hb) ?_
   refine gc hpA ?_
   refine gD ?_
   refine gC (fun ht46 => ?_) (fun ht46 => ?_) (st1 := (8,0))
   ·cases ht46
   ·refine gc hvA ?_
    refine gE2 ?_
    show _ = AV.tup [AV.agg [nA (bez a r (i : Nat) x y),nA (bew a r (i : Nat) x y)],_]; rw [bf5 h3 hv hb,bjf h3 hv hb,h3]
end Go.Lw
namespace Go.Lw
section
variable (l : Li) (a : As)
end
section
variable {l : Li} {a : As} {g : Gr}
end
end Go.Lw
namespace Go.Lw
section
variable {ts : List (List Rat)}
end
section
variable {l : Li} {a : As} {g : Gr}
end
end Go.Lw
namespace Go.Lw
structure Ld where
  body : Int
  x : Rt
  y : Rt
  fx : Rt
  fy : Rt
  m : Rt
instance : Inhabited Ld := ⟨⟨0,⟨false,[],[]⟩,⟨false,[],[]⟩,⟨false,[],[]⟩,⟨false,[],[]⟩,⟨false,[],[]⟩⟩⟩
def Ld.l (f : Ld) : List Rt := [f.x,f.y,f.fx,f.fy,f.m]
def Ld.cells (f : Ld) : List AV := [i64 f.body,bl f.x.neg,ws f.x.num,ws f.x.den,bl f.y.neg,ws f.y.num,ws f.y.den,bl f.fx.neg,ws f.fx.num,ws f.fx.den,bl f.fy.neg,ws f.fy.num,ws f.fy.den,bl f.m.neg,ws f.m.num,ws f.m.den]
def Ld.av (f : Ld) : AV := .agg f.cells
def ldN (n : Nat) (f : Ld) : Nat := if f.body < 0 \/ (n : Int) <= f.body then 9 else if f.l.all Rt.valid = true then 0 else 3
def ano (n : Nat) (ls : List Ld) : Nat := if 32 < ls.length then 4 else ack (ls.map (ldN n))
theorem bm0 {n : Nat} {f : Ld} (h : f.body < 0 \/ (n : Int) <= f.body) : ldN n f = 9 := if_pos h
theorem bm5 {n : Nat} {f : Ld} (h : ¬ (f.body < 0 \/ (n : Int) <= f.body)) (hv : f.l.all Rt.valid ≠ true) : ldN n f = 3:=by unfold ldN; rw [if_neg h,if_neg hv]
theorem bm1 {n : Nat} {f : Ld} (h : ldN n f = 0) : 0 <= f.body /\ f.body < n /\ ∀ x ∈ f.l, x.valid = true := by
 unfold ldN at h
 split at h
 ·cases h
 ·split at h
  ·rename_i h1 h2
   exact ⟨by omega,by omega,fun x hx => List.all_eq_true.1 h2 x hx⟩
  ·cases h
theorem bd2 {n : Nat} {f : Ld} (h : ¬ (f.body < 0 \/ (n : Int) <= f.body)) (hv : f.l.all Rt.valid = true) : ldN n f = 0:=by unfold ldN; rw [if_neg h,if_pos hv]
theorem bi0 {n : Nat} {ls : List Ld} (h : 32 < ls.length) : ano n ls = 4 := if_pos h
theorem biw {n : Nat} {ls : List Ld} (h : ¬ 32 < ls.length) : ano n ls = ack (ls.map (ldN n)) := if_neg h
section
variable (a : As)
def pvX (v : Vr) (b : Pl) (x y : Rt) : Et (llq a.rs) := dE (llq a.rs) (lq v.x) - dE (llq a.rs) (lq v.w) * dE (llq a.rs) (lq (auz a.rs b x y))
def pvY (v : Vr) (b : Pl) (x y : Rt) : Et (llq a.rs) := dE (llq a.rs) (lq v.y) + dE (llq a.rs) (lq v.w) * dE (llq a.rs) (lq (auy a.rs b x y))
def pwV (v : Vr) (b : Pl) (f : Ld) : Et (llq a.rs) := dotE (qE f.fx.q) (qE f.fy.q) (pvX a v b f.x f.y) (pvY a v b f.x f.y) + qE f.m.q * dE (llq a.rs) (lq v.w)
def pwE (r : List Vr) (f : Ld) : Et (llq a.rs) := pwV a (r.getD f.body.toNat default) (a.bs.getD f.body.toNat default) f
def af0 (r : List Vr) : List Ld -> Et (llq a.rs)
  | [] => 0
  | f :: fs => pwE a r f + af0 r fs
end
section
variable {a : As} {r : List Vr}
theorem a3g (ls ls' : List Ld) : af0 a r (ls ++ ls') = af0 a r ls + af0 a r ls' := by
 induction ls with
 | nil => show af0 a r ls' = 0 + af0 a r ls'; grind
 | cons f fs ih =>
  show pwE a r f + af0 a r (fs ++ ls') = (pwE a r f + af0 a r fs) + af0 a r ls'
  rw [ih]; grind
theorem awy (f : Ld) : af0 a r [f] = pwE a r f:=by show pwE a r f + 0 = _; grind
theorem ayn {ls : List Ld} {i : Nat} {f : Ld} (h : ls[i]? = some f) : af0 a r (ls.take (i + 1)) = af0 a r (ls.take i) + pwE a r f := by
 rw [aah h,a3g,awy]
theorem bfi (s : Et (llq a.rs)) (v : Vr) (b : Pl) (f : Ld) : (s + dotE (pvX a v b f.x f.y) (pvY a v b f.x f.y) (qE f.fx.q) (qE f.fy.q)) + qE f.m.q * dE (llq a.rs) (lq v.w) = s + pwV a v b f := by
 unfold pwV dotE; grind
theorem bfe {f g : Ld} (hb : g.body = f.body) (hx : g.x = f.x) (hy : g.y = f.y) (h1 : g.fx.q = f.fx.q + f.fx.q) (h2 : g.fy.q = f.fy.q + f.fy.q) (h3 : g.m.q = f.m.q + f.m.q) : pwE a r g = pwE a r f + pwE a r f := by
 unfold pwE pwV dotE
 rw [hb,hx,hy,h1,h2,h3,a18,a18,a18]; grind
theorem bg4 {v : Vr} {b : Pl} {f : Ld} (c : Ct (llq a.rs) 4000 300000) (vz : VZ a.rs v) (pz : PZ a.rs (auy a.rs b f.x f.y) (auz a.rs b f.x f.y)) (h1 : Qb 4000 f.fx.q) (h2 : Qb 4000 f.fy.q) (h3 : Qb 4000 f.m.q) :
  Zu 4000 300000 (pwV a v b f) 100 100 := by
 haveI := c; haveI := vz.w.zu; haveI := vz.x.zu; haveI := vz.y.zu; haveI := pz.x.zu; haveI := pz.y.zu
 haveI := aq4 (w := 1) h1 (by omega); haveI := aq4 (w := 1) h2 (by omega); haveI := aq4 (w := 1) h3 (by omega)
 have h := (inferInstance : Zu 4000 300000 (dotE (qE f.fx.q) (qE f.fy.q) (dE (llq a.rs) (lq v.x) - dE (llq a.rs) (lq v.w) * dE (llq a.rs) (lq (auz a.rs b f.x f.y))) (dE (llq a.rs) (lq v.y) + dE (llq a.rs) (lq v.w) * dE (llq a.rs) (lq (auy a.rs b f.x f.y))) + qE f.m.q * dE (llq a.rs) (lq v.w)) _ _)
 exact ⟨h.nm.mono (by omega)⟩
theorem axn (c : Ct (llq a.rs) 4000 300000) : ∀ {ls : List Ld}, (∀ f ∈ ls, Zu 4000 300000 (pwE a r f) 100 100) -> Zu 4000 300000 (af0 a r ls) (100 * ls.length) (101 * ls.length)
 | [],_ => (inferInstance : Zu 4000 300000 (0 : Et (llq a.rs)) 0 0)
 | f :: fs, h => by
  haveI := c
  haveI := h f (by simp)
  haveI := axn c (ls := fs) (fun g hg => h g (mem_cons_of_mem _ hg))
  have h9 := (inferInstance : Zu 4000 300000 (pwE a r f + af0 a r fs) _ _)
  exact ⟨h9.nm.mono (by simp only [length_cons]; omega)⟩
end
end Go.Lw
namespace Go.Lw
structure LdOk (f : Ld) : Prop where
  ok : ∀ x ∈ f.l,x.ok
  qb : ∀ x ∈ f.l,Qb 4000 x.q
def bgb (f : Ld) : Prop := ∀ x ∈ f.l,x.ok /\ Qb 1000 x.q
theorem bgb.o {f : Ld} (h : bgb f) : LdOk f := ⟨fun x hx => (h x hx).1,fun x hx => (h x hx).2.mono (by omega)⟩
abbrev bem (l : List Ld) : Prop := (∀ f ∈ l,∀ x ∈ f.l,x.wok) /\ l.length <= 281474976710656
abbrev Ld.nums (f : Ld) : List (List Rt) := [[f.x,f.y],[f.fx,f.fy],[f.m]]
def ldB (f : Ld) : Bool := ahy [] f.nums
def bfx (ls : List Ld) : Bool := ls.all ldB && decide (ls.length <= 6 \/ 32 < ls.length /\ ls.length < 100)
theorem bl5 {f : Ld} (h : ∀ x ∈ f.l, x.wok) : ai2 f.nums := by
 intro l hl
 simp only [Ld.nums,mem_cons,not_mem_nil,or_false] at hl
 rcases hl with rfl | rfl | rfl
 ·refine ⟨fun r hr => h r ?_, by show 2 <= _; omega⟩
  simp only [mem_cons,not_mem_nil,or_false] at hr
  rcases hr with rfl | rfl <;> simp [Ld.l]
 ·refine ⟨fun r hr => h r ?_, by show 2 <= _; omega⟩
  simp only [mem_cons,not_mem_nil,or_false] at hr
  rcases hr with rfl | rfl <;> simp [Ld.l]
 ·refine ⟨fun r hr => h r ?_, by show 1 <= _; omega⟩
  simp only [mem_cons,not_mem_nil,or_false] at hr
  rcases hr with rfl; simp [Ld.l]
theorem bmw {f : Ld} (hb : ldB f = true) (h : ∀ x ∈ f.l, x.wok) : bgb f := by
 have h1 : ∀ l ∈ f.nums, ajb 3 40 l = true := by
  have h2 : ahy [] f.nums = ahp 3 40 f.nums:=by unfold ahy; rw [if_pos (.inl (zero_le _))]; rfl
  unfold ldB at hb
  rw [h2] at hb
  unfold ahp at hb
  rw [all_eq_true] at hb
  exact hb
 have h3 : ∀ l ∈ f.nums, (∀ r ∈ l, r ∈ f.l) -> ∀ r ∈ l, r.ok /\ Qb 1000 r.q := by
  intro l hl hm r hr
  obtain ⟨_,h4,h5⟩ := anr (h1 l hl) (by omega) (by omega) (fun r hr => h r (hm r hr))
  exact ⟨h5 r hr,(h4 r.q (List.mem_map_of_mem hr)).mono (by omega)⟩
 have h6 : ∀ r ∈ f.l, r.ok /\ Qb 1000 r.q := by
  intro r hr
  simp only [Ld.l,mem_cons,not_mem_nil,or_false] at hr
  rcases hr with rfl | rfl | rfl | rfl | rfl
  ·exact h3 [f.x,f.y] (by simp [Ld.nums]) (fun r hr => by simp [Ld.l] at hr ⊢; rcases hr with e | e <;> simp [e]) _ (by simp)
  ·exact h3 [f.x,f.y] (by simp [Ld.nums]) (fun r hr => by simp [Ld.l] at hr ⊢; rcases hr with e | e <;> simp [e]) _ (by simp)
  ·exact h3 [f.fx,f.fy] (by simp [Ld.nums]) (fun r hr => by simp [Ld.l] at hr ⊢; rcases hr with e | e <;> simp [e]) _ (by simp)
  ·exact h3 [f.fx,f.fy] (by simp [Ld.nums]) (fun r hr => by simp [Ld.l] at hr ⊢; rcases hr with e | e <;> simp [e]) _ (by simp)
  ·exact h3 [f.m] (by simp [Ld.nums]) (fun r hr => by simp [Ld.l] at hr ⊢; simp [hr]) _ (by simp)
 exact h6
theorem a3i {ls : List Ld} (hb : bfx ls = true) (h : ∀ f ∈ ls, ∀ x ∈ f.l, x.wok) : (∀ f ∈ ls, bgb f) /\ (ls.length <= 6 \/ 32 < ls.length /\ ls.length < 100) := by
 unfold bfx at hb
 simp only [and_eq_true,all_eq_true,decide_eq_true_eq] at hb
 exact ⟨fun f hf => bmw (hb.1 f hf) (h f hf),hb.2⟩
theorem azt {α : Type} {g : α -> Nat} {xs : List α} {j : Nat} {b : α} (hb : xs[j]? = some b) (hj : ∀ c ∈ xs.take j, g c = 0) (hn : g b ≠ 0) : ack (xs.map g) = g b := by
 have h1 : xs = xs.take j ++ b :: xs.drop (j + 1) := by
  obtain ⟨hi,e⟩ := List.getElem?_eq_some_iff.1 hb
  rw [<- e,<- List.drop_eq_getElem_cons hi,List.take_append_drop]
 rw [h1,map_append,agm _ _ (apm hj),map_cons,aju,if_pos hn]
theorem axs {n : Nat} {ls : List Ld} (h : ls.length <= 32) {j : Nat} {f : Ld} (hf : ls[j]? = some f) (hj : ∀ c ∈ ls.take j, ldN n c = 0) {e : Nat} (he : ldN n f = e) (h0 : e ≠ 0) : ano n ls = e := by
 rw [biw (by omega),azt hf hj (by rw [he]; exact h0),he]
theorem azp {n : Nat} {ls : List Ld} (h : ls.length <= 32) (hj : ∀ c ∈ ls,ldN n c = 0) : ano n ls = 0:=by rw [biw (by omega),apm hj]
theorem ahx {n : Nat} {ls : List Ld} (h : ano n ls = 0) : ls.length <= 32 /\ ∀ f ∈ ls, ldN n f = 0 := by
 unfold ano at h
 split at h
 ·cases h
 ·rename_i h1
  exact ⟨by omega,fun f hf => ado h _ (List.mem_map_of_mem hf)⟩
def ap3 (a : As) (r : List Vr) (ls : List Ld) : Nat := if ae9 a r ≠ 0 then ae9 a r else ano r.length ls
theorem a8l {a : As} {r : List Vr} {ls : List Ld} (h : ae9 a r ≠ 0) : ap3 a r ls = ae9 a r := if_pos h
theorem avf {a : As} {r : List Vr} {ls : List Ld} (h : ae9 a r = 0) : ap3 a r ls = ano r.length ls := if_neg (by omega)
theorem bkt {a : As} {r : List Vr} {ls : List Ld} (h : ap3 a r ls = 0) : ae9 a r = 0 /\ ano r.length ls = 0 := by
 unfold ap3 at h
 split at h
 ·rename_i h1; exact absurd h h1
 ·rename_i h1; exact ⟨by omega,h⟩
def pwL (a : As) (r : List Vr) (ls : List Ld) : List Rat := if ap3 a r ls = 0 then sX (af0 a r ls) else []
theorem a3a {a : As} {r : List Vr} {ls : List Ld} (h : ap3 a r ls ≠ 0) : pwL a r ls = [] := if_neg h
theorem as5 {a : As} {r : List Vr} {ls : List Ld} (h : ap3 a r ls = 0) : pwL a r ls = sX (af0 a r ls) := if_pos h
theorem bb8 {a : As} {r : List Vr} (h : ae9 a r = 0) {f : Ld} (hf : ldN r.length f = 0) : ∃ (i : Nat) (v : Vr) (b : Pl), f.body = (i : Int) /\ r[i]? = some v /\ a.bs[i]? = some b /\ vpE a r f.body = 0 /\ pwE a r f = pwV a v b f := by
 obtain ⟨h1,h2,_⟩ := bm1 hf
 have h3 : vpE a r f.body = 0 := bm9 h (by omega)
 obtain ⟨i,v,b,e,hv,hb,_⟩ := bnb h3
 refine ⟨i,v,b,e,hv,hb,h3,?_⟩
 unfold pwE
 rw [e,Int.toNat_natCast,abc hv,abc hb]
theorem be6 {n : Nat} : cond (aab .leq (n : Int) 6) true (cond (aab .gtr (n : Int) 32) (aab .lss (n : Int) 100) false) = decide (n <= 6 \/ 32 < n /\ n < 100) := by
 have e1 := a7y (n := n) (k := 6)
 have e2 := a7p (n := n) (k := 32)
 have e3 : aab .lss (n : Int) 100 = decide (n < 100):=by simp only [aab]; exact decide_eq_decide.2 (by omega)
 rw [show aab .leq (n : Int) 6 = decide (n <= 6) from e1,show aab .gtr (n : Int) 32 = decide (32 < n) from e2,e3]
 by_cases c1 : n <= 6 <;> by_cases c2 : 32 < n <;> by_cases c3 : n < 100 <;> simp [c1,c2,c3]
theorem ba0 (m : Nat) (a : List Rt) : afp m a ≠ 9 := by
 unfold afp
 split
 ·decide
 ·split <;> decide
theorem a94 (rs : List (List Rt)) : ∀ (n i : Nat), a4h rs n i ≠ 9
 | 0,i => by unfold a4h; decide
 | n + 1, i => by
  have ih := a94 rs n (i + 1)
  unfold a4h
  split
  ·decide
  ·split
   ·exact ba0 _ _
   ·split
    ·decide
    ·exact ih
theorem bhr (rs : List (List Rt)) : aev rs ≠ 9 := by
 unfold aev
 split
 ·decide
 ·exact a94 rs _ _
theorem ax3 : ∀ {l : List Nat}, (∀ e ∈ l, e ≠ 9) -> ack l ≠ 9
 | [],_ => by decide
 | e :: l, h => by
  rw [aju]
  split
  ·exact h e (mem_cons_self ..)
  ·exact ax3 (fun x hx => h x (mem_cons_of_mem _ hx))
theorem bjj (a : As) (r : List Vr) : ae9 a r ≠ 9 := by
 unfold ae9
 split
 ·exact bhr _
 ·split
  ·decide
  ·exact ax3 (fun e he => by obtain ⟨x,_,rfl⟩ := List.mem_map.1 he; exact ba0 _ _)
theorem a83 (m : Nat) : afp m [] = 0:=by unfold afp; simp
theorem bm4 {a : As} {r : List Vr} : amw a r 0 [] [] = if ae9 a r ≠ 0 then ae9 a r else if r.length = 0 then 9 else 0 := by
 unfold amw
 split
 ·rfl
 ·rename_i h
  have h0 : ae9 a r = 0:=by omega
  have h1 : aal a.rs [[], []] = 0 := ae7 (ad1 h0).chk (fun x hx => by
   simp only [mem_cons,not_mem_nil,or_false] at hx
   rcases hx with rfl | rfl <;> exact a83 _)
  rw [h1]
  split <;> split <;> first | rfl | (exfalso; omega)
theorem bin {a : As} {r : List Vr} (h : amw a r 0 [] [] ≠ 0) (h2 : 0 < r.length \/ amw a r 0 [] [] ≠ 9) : ae9 a r ≠ 0 /\ amw a r 0 [] [] = ae9 a r := by
 rw [bm4] at h h2 ⊢
 split at h
 ·rename_i h1; rw [if_pos h1]; exact ⟨h1,rfl⟩
 ·rename_i h1
  rw [if_neg h1] at h2
  split at h
  ·rename_i h3; rw [if_pos h3] at h2; omega
  ·exact absurd rfl h
theorem bir {a : As} {r : List Vr} (h : amw a r 0 [] [] = 0 \/ (¬ 0 < r.length /\ amw a r 0 [] [] = 9)) : ae9 a r = 0 := by
 rw [bm4] at h
 have h9 := bjj a r
 split at h
 ·rename_i h1; omega
 ·rename_i h1; omega
theorem baz : NR [] 0 := ⟨fun x hx => (by cases hx),(by show 0 <= _; omega),Cb.nil⟩
theorem bnz {e n : Nat} (h : cond (!ae5 (ast e)) (cond (aab .gtr (n : Int) 0) true (!decide (e = 9))) false = true) : e ≠ 0 /\ (0 < n \/ e ≠ 9) := by
 have e2 := a7p (n := n) (k := 0)
 rw [show aab .gtr (n : Int) 0 = decide (0 < n) from e2] at h
 cases h1 : (!ae5 (ast e))
 ·rw [h1] at h; cases h
 ·refine ⟨acy h1, ?_⟩
  rw [h1] at h
  by_cases c : 0 < n
  ·exact .inl c
  ·rw [decide_eq_false c] at h
   refine .inr (fun c2 => ?_)
   rw [decide_eq_true c2] at h; cases h
theorem bmb {e n : Nat} (h : cond (!ae5 (ast e)) (cond (aab .gtr (n : Int) 0) true (!decide (e = 9))) false = false) : e = 0 \/ (¬ 0 < n /\ e = 9) := by
 have e2 := a7p (n := n) (k := 0)
 rw [show aab .gtr (n : Int) 0 = decide (0 < n) from e2] at h
 cases h1 : (!ae5 (ast e))
 ·exact .inl (ach h1)
 ·rw [h1] at h
  by_cases c : 0 < n
  ·rw [decide_eq_true c] at h; cases h
  ·rw [decide_eq_false c] at h
   by_cases c2 : e = 9
   ·exact .inr ⟨c,c2⟩
   ·rw [decide_eq_false c2] at h; cases h
theorem a3x {n : Nat} {l1 l2 : List Ld} (h : (l1 ++ l2).length <= 32) : ano n (l1 ++ l2) = 0 ↔ ano n l1 = 0 /\ ano n l2 = 0 := by
 rw [length_append] at h
 constructor
 ·intro h1
  obtain ⟨_,h2⟩ := ahx h1
  exact ⟨azp (by omega) (fun f hf => h2 f (List.mem_append_left _ hf)),azp (by omega) (fun f hf => h2 f (List.mem_append_right _ hf))⟩
 ·rintro ⟨h1, h2⟩
  refine azp (by rw [length_append]; omega) (fun f hf => ?_)
  rcases List.mem_append.1 hf with h3 | h3
  ·exact (ahx h1).2 f h3
  ·exact (ahx h2).2 f h3
theorem a1a {n : Nat} {f : Ld} (h : ldN n f = 0) : ano n [f] = 0 := azp (by show 1 <= 32; omega) (fun g hg => by rw [List.mem_singleton.1 hg]; exact h)
def ld2 (f : Ld) : Ld := ⟨f.body,f.x,f.y,rt (f.fx.q + f.fx.q),rt (f.fy.q + f.fy.q),rt (f.m.q + f.m.q)⟩
theorem biv {f : Ld} (h : bgb f) : LdOk (ld2 f) := by
 have hx := h f.x (by simp [Ld.l])
 have hy := h f.y (by simp [Ld.l])
 have h1 := h f.fx (by simp [Ld.l])
 have h2 := h f.fy (by simp [Ld.l])
 have h3 := h f.m (by simp [Ld.l])
 have k : ∀ x ∈ (ld2 f).l, x.ok /\ Qb 4000 x.q := by
  intro x hx9
  simp only [ld2,Ld.l,mem_cons,not_mem_nil,or_false] at hx9
  rcases hx9 with rfl | rfl | rfl | rfl | rfl
  ·exact ⟨hx.1,hx.2.mono (by omega)⟩
  ·exact ⟨hy.1,hy.2.mono (by omega)⟩
  ·have q := (h1.2.add h1.2).mono (f := 4000) (by omega); exact ⟨(q.qs (by omega)).ok,by rw [aho]; exact q⟩
  ·have q := (h2.2.add h2.2).mono (f := 4000) (by omega); exact ⟨(q.qs (by omega)).ok,by rw [aho]; exact q⟩
  ·have q := (h3.2.add h3.2).mono (f := 4000) (by omega); exact ⟨(q.qs (by omega)).ok,by rw [aho]; exact q⟩
 exact ⟨fun x hx => (k x hx).1,fun x hx => (k x hx).2⟩
theorem bmm {n : Nat} {f : Ld} (h : ldN n f = 0) : ldN n (ld2 f) = 0 := by
 obtain ⟨h1,h2,h3⟩ := bm1 h
 refine bd2 (by show ¬ (f.body < 0 \/ (n : Int) <= f.body); omega) (List.all_eq_true.2 fun x hx => ?_)
 simp only [ld2,Ld.l,mem_cons,not_mem_nil,or_false] at hx
 rcases hx with rfl | rfl | rfl | rfl | rfl
 ·exact h3 _ (by simp [Ld.l])
 ·exact h3 _ (by simp [Ld.l])
 ·exact akf _
 ·exact akf _
 ·exact akf _
theorem bh9 {a : As} {r : List Vr} (f : Ld) : pwE a r (ld2 f) = pwE a r f + pwE a r f := bfe rfl rfl rfl (aho _) (aho _) (aho _)
theorem ak5 {l : List Rat} (h : l = []) : Sub (.v (.slice none 0 0)) (nA l):=by subst h; exact Sub.nil _ _ _
theorem axm (a : As) (r : List Vr) (ls : List Ld) : Sub (.v (.slice none 0 0)) (nA (sX (af0 a r (ls.take 0)))) := ak5 (show sh _ (0 : Et (llq a.rs)) = [] by rw [E.zero_def]; exact awf _)
end Go.Lw
namespace Go.Lw
structure Bulk {H : Type} (bk : DataW H -> Nat) (bka : List (DataW H) -> Nat) : Prop where
  one : ∀ d,1 <= bk d
  nil : bka [] = 0
  cons : ∀ d l,bka (d :: l) = bk d + bka l
  slice : ∀ e s,bka e + 1 <= bk (.slice e s)
  agg : ∀ l,bka l <= bk (.agg l)
section
variable {P : Program} {W : World} {H : Type} {enc : TypeId × Value -> H} {bk : DataW H -> Nat} {bka : List (DataW H) -> Nat}
theorem Bulk.pick (B : Bulk bk bka) {α : Type} {m : α -> Nat} : ∀ {l : List α} {xs : List (DataW H)}, l.length <= xs.length -> (∀ (i : Nat) (a : α), l[i]? = some a -> ∃ x, xs[i]? = some x /\ m a <= bk x) -> (l.map m).sum <= bka xs
 | [],xs,_,_ => by simp
 | a :: l,[],hl,_ => by simp at hl
 | a :: l, x :: xs, hl, h => by
  obtain ⟨y,hy,h1⟩ := h 0 a rfl
  cases hy
  have h2 := B.pick (l := l) (xs := xs) (by simpa using hl) (fun i b hb => h (i + 1) b hb)
  rw [B.cons,map_cons,List.sum_cons]
  omega
def at7 (P : Program) (W : World) (enc : TypeId × Value -> H) (bk : DataW H -> Nat) (t : TypeId) {α : Type} (f : α -> AV) (p : α -> Prop) (m : α -> Nat) : Prop :=
  ∀ (sp : Nat -> Bool) (fuel : Nat) (cs : List Value) (x : DataW H × List MemPlace),DataW.trod enc P W 0 sp true fuel t cs = some x -> (∀ n ∈ x.1.weights P t,n <= reachBytes) -> ∃ a,p a /\ CRp W cs (f a).cells /\ m a <= bk x.1
theorem ac0.m {t : TypeId} {α : Type} {f : α -> AV} {p : α -> Prop} (h : ac0 P W enc t f p) : at7 P W enc bk t f p (fun _ => 0) := by
 intro sp fuel cs x hx hw
 obtain ⟨a,h1,h2⟩ := h sp fuel cs x hx hw
 exact ⟨a,h1,h2,zero_le _⟩
theorem ac0.m1 (B : Bulk bk bka) {t : TypeId} {α : Type} {f : α -> AV} {p : α -> Prop} (h : ac0 P W enc t f p) : at7 P W enc bk t f p (fun _ => 1) := by
 intro sp fuel cs x hx hw
 obtain ⟨a,h1,h2⟩ := h sp fuel cs x hx hw
 exact ⟨a,h1,h2,B.one _⟩
theorem at7.map {α β : Type} {t : TypeId} {f : α -> AV} {p : α -> Prop} {m : α -> Nat} (h : at7 P W enc bk t f p m) (g : α -> β) (f' : β -> AV) (p' : β -> Prop) (m' : β -> Nat) (hg : ∀ a, p a -> p' (g a) /\ f' (g a) = f a /\ m' (g a) <= m a) : at7 P W enc bk t f' p' m' := by
 intro sp fuel cs x hx hwt
 obtain ⟨a,ha,hc,hm⟩ := h sp fuel cs x hx hwt
 obtain ⟨h1,h2,h3⟩ := hg a ha
 exact ⟨g a,h1,by rw [h2]; exact hc,le_trans h3 hm⟩
theorem att {t e : TypeId} {n : Nat} {α : Type} {f : α -> AV} {p : α -> Prop} (ht : P.underlying t = some (.array 2 e)) (hc : P.cellsOf e = n) (hct : P.cellsOf t = n + n) (hel : ac0 P W enc e f p) (hln : ∀ a, (f a).cells.length = n) :
  ac0 P W enc t (fun z : α × α => .agg ((f z.1).cells ++ (f z.2).cells)) (fun z => p z.1 /\ p z.2) := by
 intro sp fuel cs x h hwt
 obtain ⟨xs,k,rfl,hxe,hl,hxl,hE⟩ := DataW.trod_array ht h
 match xs,hxl with
 | [x0, x1], _ =>
  have e0 := hE 0 (by omega)
  have e1 := hE 1 (by omega)
  have hw : ∀ y ∈ [x0, x1], ∀ n ∈ y.1.weights P e, n <= reachBytes := fun y hy k hk => hwt k (by
   rw [hxe]
   simp only [DataW.weights,ht]
   exact afm (List.mem_map.2 ⟨y,hy,rfl⟩) k hk)
  rw [hc,Nat.zero_mul,drop_zero] at e0
  rw [hc,Nat.one_mul] at e1
  obtain ⟨a,ha,hca⟩ := hel _ _ _ _ e0 (hw x0 (by simp))
  obtain ⟨b,hb,hcb⟩ := hel _ _ _ _ e1 (hw x1 (by simp))
  refine ⟨(a,b),⟨ha,hb⟩,?_⟩
  ·have h9 := baf (W := W) (cs := cs) (off := 0) (n := n) (m := n) (by rw [drop_zero]; exact hca) (hln a) (by rw [Nat.zero_add]; exact hcb)
   rw [drop_zero,<- hct,<- hl,take_length] at h9
   exact h9
theorem bef {t e : TypeId} {n : Nat} {α : Type} {g : α -> List AV} {q : α -> Prop} {v : Value} {d : DataW H} {ps : List MemPlace} {sp : Nat -> Bool} {b0 : Nat} (ht : P.underlying t = some (.array n e))
  (ho : ac0 P W enc t (fun a => .agg (g a)) q) (hval : Value.okWide P W .any b0 t v) (hd : DataW.Trod enc P W 0 sp true t v d ps) (hwt : ∀ n ∈ d.weights P t,n <= reachBytes) : ∃ a,q a /\ Rep (Gw W) (Sz W) abz v (.agg (g a)) := by
 unfold Value.okWide at hval
 rw [ht] at hval
 obtain ⟨cs,rfl,_,_⟩ := hval
 obtain ⟨fuel,hf⟩ := hd
 obtain ⟨a,ha,hc⟩ := ho _ _ _ _ hf hwt
 exact ⟨a,ha,.agg (by have := hc.1; simpa [Value.cells,AV.cells] using this) (fun j c h => hc.2.1 j c h) (fun j u c hu h => hc.2.2 j u c (by simpa [Value.cells] using hu) h)⟩
end
end Go.Lw
namespace Go.Lw
open Go.Proofs
section
variable {W : World} {H : Type} {enc : TypeId × Value -> H}
theorem bhm : ac0 prog W enc 271 (fun n : Nat => u32 n) (fun n => n < 4294967296) :=
 (as9 (k := .u32) Tryz.underlying271).map Int.toNat _ _ (fun n h => by
  have h1 : 0 <= n /\ n <= 4294967295:=by simpa [Lit.wf,IntKind.min,IntKind.max,IntKind.signed,IntKind.bits] using h
  have h2 : ((n.toNat : Nat) : Int) = n:=by omega
  exact ⟨by omega,by unfold u32; rw [h2]⟩)
theorem bgn : ac0 prog W enc 80 ws (fun l => Ws l /\ l.length <= 281474976710656) :=
 (adp Tryz.underlying80 (n := 1) (by kernel_rfl) (by omega) (by kernel_rfl) bhm (fun _ => rfl)).map id _ _ (fun l h => ⟨⟨fun x hx => h.1 x hx,h.2⟩,rfl⟩)
theorem bd1 : ac0 prog W enc 4 bl (fun _ => True) := a0o Tryz.underlying4
theorem a9y : ac0 prog W enc 3 i64 (fun _ => True) := (as9 (k := .i64) Tryz.underlying3).map id _ _ (fun n h => ⟨trivial,rfl⟩)
theorem aqv : ac0 prog W enc 82 Rt.av Rt.wok :=
 (ads (n := 3) Tryz.underlying82 (by kernel_rfl)
  (.cons rfl (n := 1) (by kernel_rfl) bd1 (fun _ => rfl) (.cons rfl (n := 1) (by kernel_rfl) bgn (fun _ => rfl) (.cons rfl (n := 1) (by kernel_rfl) bgn (fun _ => rfl) (.nil _)))) (fun _ => rfl)).map
  (fun z => ⟨z.1,z.2.1,z.2.2.1⟩) _ _ (fun z h => ⟨⟨h.2.1.1,h.2.2.1.1⟩,rfl⟩)
def bkj (x : List Rt) : Prop := (∀ r ∈ x,r.wok) /\ x.length <= 281474976710656
theorem amm : ac0 prog W enc 38 nR bkj := adp Tryz.underlying38 (n := 3) (by kernel_rfl) (by omega) (by kernel_rfl) aqv (fun _ => rfl)
theorem bb3 : ac0 prog W enc 27 (fun l : List (List Rt) => .lst 1 (l.map nR)) (fun l => ai2 l /\ l.length <= 281474976710656) :=
 adp Tryz.underlying27 (n := 1) (by kernel_rfl) (by omega) (by kernel_rfl) amm (fun _ => rfl)
theorem a6s : ac0 prog W enc 29 agt (fun l => ai2 l /\ l.length <= 281474976710656) :=
 (ads (n := 1) Tryz.underlying29 (by kernel_rfl) (.cons rfl (n := 1) (by kernel_rfl) bb3 (fun _ => rfl) (.nil _)) (fun _ => rfl)).map (fun z => z.1) _ _ (fun z h => ⟨h.1,rfl⟩)
theorem a4f : ac0 prog W enc 107 Pl.av (fun b => ai2 b.l) :=
 (ads (n := 4) Tryz.underlying107 (by kernel_rfl)
  (.cons rfl (n := 1) (by kernel_rfl) amm (fun _ => rfl) (.cons rfl (n := 1) (by kernel_rfl) amm (fun _ => rfl) (.cons rfl (n := 1) (by kernel_rfl) amm (fun _ => rfl) (.cons rfl (n := 1) (by kernel_rfl) amm (fun _ => rfl) (.nil _))))) (fun _ => rfl)).map
  (fun z => ⟨z.1, z.2.1, z.2.2.1, z.2.2.2.1⟩) _ _ (fun z h => ⟨by
   intro x hx
   simp only [Pl.l,mem_cons,not_mem_nil,or_false] at hx
   rcases hx with rfl | rfl | rfl | rfl
   ·exact h.1
   ·exact h.2.1
   ·exact h.2.2.1
   ·exact h.2.2.2.1,rfl⟩)
theorem a0j : ac0 prog W enc 30 (fun l : List Pl => .lst 4 (l.map Pl.av)) (fun l => (∀ b ∈ l, ai2 b.l) /\ l.length <= 281474976710656) :=
 adp Tryz.underlying30 (n := 4) (by kernel_rfl) (by omega) (by kernel_rfl) a4f (fun _ => rfl)
theorem bd7 : ac0 prog W enc 31 (fun l : List Int => .lst 1 (l.map i64)) (fun l => (∀ b ∈ l, True) /\ l.length <= 281474976710656) :=
 adp Tryz.underlying31 (n := 1) (by kernel_rfl) (by omega) (by kernel_rfl) a9y (fun _ => rfl)
abbrev asG (a : As) : List AV := [.lst 1 (a.rs.map nR),.lst 4 (a.bs.map Pl.av),.lst 1 (a.ms.map i64)]
theorem a91 : ac0 prog W enc 33 (fun a : As => .agg (asG a)) As.ok :=
 (ads (n := 3) Tryz.underlying33 (by kernel_rfl)
  (.cons rfl (n := 1) (by kernel_rfl) a6s (fun _ => rfl) (.cons rfl (n := 1) (by kernel_rfl) a0j (fun _ => rfl) (.cons rfl (n := 1) (by kernel_rfl) bd7 (fun _ => rfl) (.nil _)))) (fun _ => rfl)).map
  (fun z => ⟨z.1,z.2.1,z.2.2.1⟩) _ _ (fun z h => ⟨⟨h.1.1,h.1.2,h.2.1.1,h.2.1.2⟩,rfl⟩)
theorem bdb : ac0 prog W enc 211 Vr.av (fun b => ai2 b.l) :=
 (ads (n := 3) Tryz.underlying211 (by kernel_rfl)
  (.cons rfl (n := 1) (by kernel_rfl) amm (fun _ => rfl) (.cons rfl (n := 1) (by kernel_rfl) amm (fun _ => rfl) (.cons rfl (n := 1) (by kernel_rfl) amm (fun _ => rfl) (.nil _)))) (fun _ => rfl)).map
  (fun z => ⟨z.1, z.2.1, z.2.2.1⟩) _ _ (fun z h => ⟨by
   intro x hx
   simp only [Vr.l,mem_cons,not_mem_nil,or_false] at hx
   rcases hx with rfl | rfl | rfl
   ·exact h.1
   ·exact h.2.1
   ·exact h.2.2.1,rfl⟩)
theorem ayq : ac0 prog W enc 90 (fun l : List Vr => .lst 3 (l.map Vr.av)) (fun l => (∀ b ∈ l, ai2 b.l) /\ l.length <= 281474976710656) :=
 adp Tryz.underlying90 (n := 3) (by kernel_rfl) (by omega) (by kernel_rfl) bdb (fun _ => rfl)
theorem bcn : ac0 prog W enc 103 Ld.av (fun f => ∀ x ∈ f.l, x.wok) :=
 (ads (n := 16) Tryz.underlying103 (by kernel_rfl)
  (.cons rfl (n := 1) (by kernel_rfl) a9y (fun _ => rfl) (.cons rfl (n := 3) (by kernel_rfl) aqv (fun _ => rfl) (.cons rfl (n := 3) (by kernel_rfl) aqv (fun _ => rfl) (.cons rfl (n := 3) (by kernel_rfl) aqv (fun _ => rfl)
   (.cons rfl (n := 3) (by kernel_rfl) aqv (fun _ => rfl) (.cons rfl (n := 3) (by kernel_rfl) aqv (fun _ => rfl) (.nil _))))))) (fun _ => rfl)).map
  (fun z => ⟨z.1, z.2.1, z.2.2.1, z.2.2.2.1, z.2.2.2.2.1, z.2.2.2.2.2.1⟩) _ _ (fun z h => ⟨by
   intro x hx
   simp only [Ld.l,mem_cons,not_mem_nil,or_false] at hx
   rcases hx with rfl | rfl | rfl | rfl | rfl
   ·exact h.2.1
   ·exact h.2.2.1
   ·exact h.2.2.2.1
   ·exact h.2.2.2.2.1
   ·exact h.2.2.2.2.2.1,rfl⟩)
theorem aw6 : ac0 prog W enc 91 (fun l : List Ld => .lst 16 (l.map Ld.av)) bem :=
 adp Tryz.underlying91 (n := 16) (by kernel_rfl) (by omega) (by kernel_rfl) bcn (fun _ => rfl)
theorem a1v : ac0 prog W enc 98 (fun z : List Ld × List Ld => .agg [.lst 16 (z.1.map Ld.av), .lst 16 (z.2.map Ld.av)]) (fun z => bem z.1 /\ bem z.2) :=
 att Tryz.underlying98 (n := 1) (by kernel_rfl) (by kernel_rfl) aw6 (fun _ => rfl)
end
end Go.Lw
namespace Go.Lw
open Go.Proofs Go.Proofs.YtjidoooidfcjgaaGreat
open Go.ChangeShapes Go.WideShapes Go.ChangeAt Go.RowKit
theorem own : ownKnob prog.godebug = none:=by kernel_rfl
theorem ave : laidOutB prog = true:=by kernel_rfl
theorem ax0 : prog.stopsHeard = true:=by kernel_rfl
theorem ayu : prog.plainKeys = true:=by kernel_rfl
theorem a1d : mapsRowed prog = true:=by kernel_rfl
theorem ax4 : prog.mayEnter = true:=by kernel_rfl
theorem aw7 : prog.liftsFinal = false:=by kernel_rfl
theorem at6 {v : Value} (h : ∀ cs, v ≠ .agg cs) : v.cells = #[v] := by
 cases v <;> first | rfl | exact absurd rfl (h _)
theorem aid {P : Program} {W : World} {r : Reach} {b0 : Nat} {t e : TypeId} {v : Value} (ht : P.underlying t = some (.slice e)) (hval : Value.okWide P W r b0 t v) : v.cells = #[v] := by
 refine at6 (fun cs h => ?_)
 subst h
 unfold Value.okWide at hval
 rw [ht] at hval
 unfold Cell.okWide at hval
 rw [ht] at hval
 unfold Cell.ok at hval
 rw [ht] at hval
 exact hval
theorem aiw {H : Type} {enc : TypeId × Value -> H} {W W' : World} {t : TypeId} {v : Value} {d : DataW H} {ps : List MemPlace} {sp' : Nat -> Bool} (hr : prog.readableRec t = true) (ht : t < prog.types.size)
  (h : DataW.Trod enc prog W 0 (fun _ => true) true t v d ps) (hb : Below W.heap.size W W') (hlt : ∀ x ∈ ps,x.block < W.heap.size) (hs : ∀ p ∈ ps,sp' p.block = true) : DataW.Trod enc prog W' 0 sp' true t v d ps :=
 WideElems.Trod_stays ave hr ht h (fun x hx => hb.same (hlt x hx)) hs
end Go.Lw
namespace Go.Lw
open Go.Proofs
theorem ava (n : Nat) (ls : List Ld) (hl : ∀ f ∈ ls, LdOk f) (hn : ls.length <= 100) : FnC prog 125 [i64 n, .lst 16 (ls.map Ld.av)] (afe (ano n ls)) := by
 refine gF0 func125 ?_
 refine gl ?_
 refine gC (fun ht11 => ?_) (fun ht11 => ?_)
 ·have h1 := aww (b := 32) ht11
  refine gE1 ?_
  rw [bi0 h1]; rfl
 ·have h1 := aul (b := 32) ht11
  refine gl ?_
  refine gL1 [0,13,14] [] (fun (i : Nat) => [(15,some (i64 i))]) (fun _ => []) (fun i => i <= ls.length /\ ∀ f ∈ ls.take i,ldN n f = 0) (fun i => ls.length - i) 0 ⟨zero_le _,fun x hx => by simp at hx⟩ ?_
  rintro i ⟨hi,hj⟩ K1 hK1
  refine gC (fun ht16 => ?_) (fun ht16 => ?_)
  ·have hin := acr ht16
   obtain ⟨f,hf⟩ := adg hin
   have hfo := hl f (mem_of_getElem? hf)
   refine gi (aap hf) ?_
   refine gC (fun ht27 => ?_) (fun ht27 => ?_)
   ·have h2 := a7m ht27
    refine gE1 ?_
    rw [axs h1 hf hj (bm0 h2) (by decide)]; rfl
   ·have h2 := a8q ht27
    refine ge rfl ?_
    refine gL1 [0,13,14,15,39,40] [] (fun (q : Nat) => [(41,some (i64 q))]) (fun _ => []) (fun q => q <= 5 /\ ∀ x ∈ f.l.take q,x.valid = true) (fun q => 5 - q) 0 ⟨zero_le _,fun x hx => by simp at hx⟩ ?_
    rintro q ⟨hq,hqz⟩ K2 hK2
    refine gC (fun ht42 => ?_) (fun ht42 => ?_)
    ·have hqn : q < 5 := acr (b := 5) ht42
     obtain ⟨x,hx⟩ : ∃ x,f.l[q]? = some x := adg (show q < f.l.length from hqn)
     have hxo := hfo.ok x (mem_of_getElem? hx)
     refine gi (aap (f := Rt.av) (l := f.l) hx) ?_
     refine gc (ab2 x hxo) ?_
     refine gC (fun ht47 => ?_) (fun ht47 => ?_)
     ·have h3 := ajr ht47
      refine gE1 ?_
      rw [axs h1 hf hj (bm5 h2 (by rw [af1 hx h3]; simp)) (by decide)]; rfl
     ·have h3 := aj0 ht47
      refine ga abl ?_
      exact gK1 hK2 (q + 1) ⟨hqn,fun z hz => by rw [aah hx] at hz; rcases List.mem_append.1 hz with h9 | h9; exact hqz z h9; (rw [List.mem_singleton.1 h9]; exact h3)⟩
    ·have hqn : q = 5 := aa8 (b := 5) hq ht42
     subst hqn
     have hfz : ldN n f = 0 := bd2 h2 (List.all_eq_true.2 hqz)
     refine ga abl ?_
     exact gK1 hK1 (i + 1) ⟨hin,fun c hc => by rw [aah hf] at hc; rcases List.mem_append.1 hc with h9 | h9; exact hj c h9; (rw [List.mem_singleton.1 h9]; exact hfz)⟩
  ·have hin := aa8 hi ht16
   rw [hin,take_length] at hj
   refine gE1 ?_
   rw [azp h1 hj]; rfl
theorem au0 (n : Nat) (ls : List Ld) (hl : ∀ f ∈ ls, LdOk f) (hn : ls.length <= 100) : FnC prog 127 [i64 n, .lst 16 (ls.map Ld.av)] (i64 (ano n ls)) := by
 refine gF0 func127 ?_
 refine gl ?_
 refine gC (fun ht11 => ?_) (fun ht11 => ?_)
 ·have h1 := aww (b := 32) ht11
  refine gE1 ?_
  rw [bi0 h1]; rfl
 ·have h1 := aul (b := 32) ht11
  refine gl ?_
  refine gL1 [0,12,13] [] (fun (i : Nat) => [(14,some (i64 i))]) (fun _ => []) (fun i => i <= ls.length /\ ∀ f ∈ ls.take i,ldN n f = 0) (fun i => ls.length - i) 0 ⟨zero_le _,fun x hx => by simp at hx⟩ ?_
  rintro i ⟨hi,hj⟩ K1 hK1
  refine gC (fun ht15 => ?_) (fun ht15 => ?_)
  ·have hin := acr ht15
   obtain ⟨f,hf⟩ := adg hin
   have hfo := hl f (mem_of_getElem? hf)
   refine gi (aap hf) ?_
   refine gC (fun ht26 => ?_) (fun ht26 => ?_)
   ·have h2 := a7m ht26
    refine gE1 ?_
    rw [axs h1 hf hj (bm0 h2) (by decide)]; rfl
   ·have h2 := a8q ht26
    refine ge rfl ?_
    refine gL1 [0,12,13,14,37,38] [] (fun (q : Nat) => [(39,some (i64 q))]) (fun _ => []) (fun q => q <= 5 /\ ∀ x ∈ f.l.take q,x.valid = true) (fun q => 5 - q) 0 ⟨zero_le _,fun x hx => by simp at hx⟩ ?_
    rintro q ⟨hq,hqz⟩ K2 hK2
    refine gC (fun ht40 => ?_) (fun ht40 => ?_)
    ·have hqn : q < 5 := acr (b := 5) ht40
     obtain ⟨x,hx⟩ : ∃ x,f.l[q]? = some x := adg (show q < f.l.length from hqn)
     have hxo := hfo.ok x (mem_of_getElem? hx)
     refine gi (aap (f := Rt.av) (l := f.l) hx) ?_
     refine gc (ajs x hxo) ?_
     refine gC (fun ht45 => ?_) (fun ht45 => ?_)
     ·have h3 := ajr ht45
      refine gE1 ?_
      rw [axs h1 hf hj (bm5 h2 (by rw [af1 hx h3]; simp)) (by decide)]; rfl
     ·have h3 := aj0 ht45
      refine ga abl ?_
      exact gK1 hK2 (q + 1) ⟨hqn,fun z hz => by rw [aah hx] at hz; rcases List.mem_append.1 hz with h9 | h9; exact hqz z h9; (rw [List.mem_singleton.1 h9]; exact h3)⟩
    ·have hqn : q = 5 := aa8 (b := 5) hq ht40
     subst hqn
     have hfz : ldN n f = 0 := bd2 h2 (List.all_eq_true.2 hqz)
     refine ga abl ?_
     exact gK1 hK1 (i + 1) ⟨hin,fun c hc => by rw [aah hf] at hc; rcases List.mem_append.1 hc with h9 | h9; exact hj c h9; (rw [List.mem_singleton.1 h9]; exact hfz)⟩
  ·have hin := aa8 hi ht15
   rw [hin,take_length] at hj
   refine gE1 ?_
   rw [azp h1 hj]; rfl
structure LdZ (a : As) (r : List Vr) (f : Ld) (i : Nat) (v : Vr) (b : Pl) : Prop where
  e : f.body = (i : Int)
  hv : r[i]? = some v
  hb : a.bs[i]? = some b
  pt : FnC prog 328 [a.av,.lst 3 (r.map Vr.av),i64 f.body,f.x.av,f.y.av] (.tup [ptA (sX (pvX a v b f.x f.y)) (sX (pvY a v b f.x f.y)),.v .nilIface])
  rp : FnC prog 181 [agt a.rs,b.av,f.x.av,f.y.av] (ptR (auy a.rs b f.x f.y) (auz a.rs b f.x f.y))
  rv : FnC prog 232 [agt a.rs,v.av,ptR (auy a.rs b f.x f.y) (auz a.rs b f.x f.y)] (ptA (sX (pvX a v b f.x f.y)) (sX (pvY a v b f.x f.y)))
  pw : pwE a r f = pwV a v b f
  vz : VZ a.rs v
  ew : nR v.w = nA (lq v.w)
  zx : Zu 4000 300000 (pvX a v b f.x f.y) 42 42
  zy : Zu 4000 300000 (pvY a v b f.x f.y) 42 42
  zs : Zu 4000 300000 (pwE a r f) 100 100
theorem aur {a : As} {r : List Vr} (vl : VL a r) (h : ae9 a r = 0) {f : Ld} (ho : LdOk f) (hf : ldN r.length f = 0) : ∃ i v b, LdZ a r f i v b := by
 obtain ⟨i,v,b,e,hv,hb,hp,hw⟩ := bb8 h hf
 have hbm := mem_of_getElem? hb
 have hvm := mem_of_getElem? hv
 have ox := ho.ok f.x (by simp [Ld.l])
 have oy := ho.ok f.y (by simp [Ld.l])
 have qx := ho.qb f.x (by simp [Ld.l])
 have qy := ho.qb f.y (by simp [Ld.l])
 have hnr := vl.al.nr b hbm
 have h6 := (ad1 h).chk
 have h7 := (ad1 h).bs b hbm
 obtain ⟨nx,ny,hc⟩ := a95 vl.al h6 hnr h7 qx qy
 have pz := bic (vl.al.ct h6) nx ny (le_refl _) hc
 have vz := bc3 vl h hvm
 have c := vl.al.ct h6
 have hpt := au7 a r vl f.body f.x f.y ox oy qx qy
 have hrp := a32 a.rs 40000 4000 vl.al.tr h6 b hnr h7 f.x f.y ox oy qx qy (bgv vl.al h6)
 rw [<- bju] at hrp
 have ew : nR v.w = nA (lq v.w) := by
  have := vz.av; unfold Vr.av at this; simp only [AV.agg.injEq,List.cons.injEq] at this
  exact this.1
 refine ⟨i,v,b,e,hv,hb,?_,hrp,bbd vl h hvm pz,hw,vz,ew,?_,?_,?_⟩
 ·rw [e] at hp hpt ⊢
  have hpt : FnC prog 328 [a.av,.lst 3 (r.map Vr.av),i64 (i : Nat),f.x.av,f.y.av] (.tup [AV.agg [nA (bez a r (i : Nat) f.x f.y),nA (bew a r (i : Nat) f.x f.y)],afe (vpE a r (i : Nat))]) := hpt
  rw [bf5 hp hv hb,bjf hp hv hb,hp] at hpt
  exact hpt
 ·haveI := c; haveI := vz.w.zu; haveI := vz.x.zu; haveI := pz.y.zu
  exact ⟨(inferInstance : Zu 4000 300000 (dE (llq a.rs) (lq v.x) - dE (llq a.rs) (lq v.w) * dE (llq a.rs) (lq (auz a.rs b f.x f.y))) _ _).nm.mono (by omega)⟩
 ·haveI := c; haveI := vz.w.zu; haveI := vz.y.zu; haveI := pz.x.zu
  exact ⟨(inferInstance : Zu 4000 300000 (dE (llq a.rs) (lq v.y) + dE (llq a.rs) (lq v.w) * dE (llq a.rs) (lq (auy a.rs b f.x f.y))) _ _).nm.mono (by omega)⟩
 ·rw [hw]
  exact bg4 c vz pz (ho.qb f.fx (by simp [Ld.l])) (ho.qb f.fy (by simp [Ld.l])) (ho.qb f.m (by simp [Ld.l]))
theorem awu (a : As) (r : List Vr) (vl : VL a r) (h : ae9 a r = 0) (f : Ld) (ho : LdOk f) (hf : ldN r.length f = 0) : FnC prog 230 [a.av, .lst 3 (r.map Vr.av), f.av] (.tup [nA (sX (pwE a r f)), .v .nilIface]) := by
 have hrl := vl.rl
 obtain ⟨i,v,b,Z⟩ := aur vl h ho hf
 have hb0 := Z.e
 have ofx := ho.ok f.fx (by simp [Ld.l])
 have ofy := ho.ok f.fy (by simp [Ld.l])
 have om := ho.ok f.m (by simp [Ld.l])
 have qfx := ho.qb f.fx (by simp [Ld.l])
 have qfy := ho.qb f.fy (by simp [Ld.l])
 have qm := ho.qb f.m (by simp [Ld.l])
 have hck := (ad1 h).chk
 haveI c := vl.al.ct hck
 obtain ⟨tw,etw⟩ := acd vl.al.tr hck
 haveI := Z.vz.w
 haveI := Z.zx
 haveI := Z.zy
 haveI := aq4 (w := 1) qfx (by omega)
 haveI := aq4 (w := 1) qfy (by omega)
 haveI := aq4 (w := 1) qm (by omega)
 have hd := bh2 (ts := llq a.rs) (u := 4000) (k := 300000) (a := sh 0 (f.fx.q : Rat)) (b := sh 0 (f.fy.q : Rat)) (a2 := sX (pvX a v b f.x f.y)) (b2 := sX (pvY a v b f.x f.y)) (by decide)
 have hm := bbn (ts := llq a.rs) (u := 4000) (k := 300000) (a := sh 0 (f.m.q : Rat)) (b := lq v.w) (by decide)
 haveI := Z.vz.w.zu
 have hs := a8g (ts := llq a.rs) (u := 4000) (k := 300000) (a := sX (dotE (qE f.fx.q) (qE f.fy.q) (pvX a v b f.x f.y) (pvY a v b f.x f.y))) (b := sX (qE f.m.q * dE (llq a.rs) (lq v.w))) (by decide)
 rw [<- etw] at hd hm hs
 rw [<- Z.ew] at hm
 refine gF0 func230 ?_
 refine gc Z.pt ?_
 refine gC (fun ht25 => ?_) (fun ht25 => ?_) (st1 := (3,0))
 ·cases ht25
 ·refine gc (ao6 f.fx f.fy ofx ofy (qfx.qs (by omega)) (qfy.qs (by omega))) ?_
  refine gc hd ?_
  refine gD ?_
  refine gC (fun ht40 => ?_) (fun ht40 => ?_) (st1 := (6,0))
  ·cases ht40
  ·refine gc (ait f.m om (qm.qs (by omega))) ?_
   refine gi (aqc (n := i) Z.e Z.hv) ?_
   refine gc hm ?_
   refine gD ?_
   refine gC (fun ht58 => ?_) (fun ht58 => ?_) (st1 := (9,0))
   ·cases ht58
   ·refine gc hs ?_
    refine gE2 ?_
    rw [Z.pw]; rfl
theorem a3p (a : As) (r : List Vr) (vl : VL a r) (h : ae9 a r = 0) (ls : List Ld) (hl : ∀ f ∈ ls, LdOk f) (hz : ano r.length ls = 0) : FnC prog 126 [a.av, .lst 3 (r.map Vr.av), .lst 16 (ls.map Ld.av)] (.tup [nA (sX (af0 a r ls)), .v .nilIface]) := by
 have hrl := vl.rl
 obtain ⟨hll,hla⟩ := ahx hz
 have hck := (ad1 h).chk
 haveI c := vl.al.ct hck
 obtain ⟨tw,etw⟩ := acd vl.al.tr hck
 have hzu : ∀ f ∈ ls, Zu 4000 300000 (pwE a r f) 100 100 := fun f hf => by
  obtain ⟨i,v,b,Z⟩ := aur vl h (hl f hf) (hla f hf)
  exact Z.zs
 refine gF0 func126 ?_
 refine gl ?_
 refine gL1 [1,3,13,14] [3] (fun (i : Nat) => [(8,some (nA (sX (af0 a r (ls.take i))))),(15,some (i64 i))]) (fun _ => []) (fun i => i <= ls.length) (fun i => ls.length - i) 0 (zero_le _) ?_ (h1 := (.cons rfl (axm a r ls) (.k .nil)))
 rintro i hi K1 hK1
 refine gC (fun ht16 => ?_) (fun ht16 => ?_)
 ·have hin := acr ht16
  obtain ⟨f,hf⟩ := adg hin
  have hfm := mem_of_getElem? hf
  haveI z1 := hzu f hfm
  haveI z2 := axn c (ls := ls.take i) (fun g hg => hzu g (mem_of_mem_take hg))
  have htl : (ls.take i).length <= 32:=by rw [length_take]; omega
  have ha := a8g (ts := llq a.rs) (u := 4000) (k := 300000) (a := sX (af0 a r (ls.take i))) (b := sX (pwE a r f)) (by omega)
  rw [<- ayn hf,<- etw] at ha
  refine gi (aap hf) ?_
  refine gc (awu a r vl h f (hl f hfm) (hla f hfm)) ?_
  refine gC (fun ht27 => ?_) (fun ht27 => ?_) (st1 := (7,0))
  ·cases ht27
  ·refine gc ha ?_
   refine gC (fun ht38 => ?_) (fun ht38 => ?_) (st1 := (10,0))
   ·cases ht38
   ·refine ga abl ?_
    exact gK1 hK1 (i + 1) hin
 ·have hin := aa8 hi ht16
  refine gE2 ?_
  rw [hin,take_length]
theorem au9 (a : As) (r : List Vr) (vl : VL a r) (h : ae9 a r = 0) (ls : List Ld) (hl : ∀ f ∈ ls, LdOk f) (hz : ano r.length ls = 0) : FnC prog 128 [a.av, .lst 3 (r.map Vr.av), .lst 16 (ls.map Ld.av)] (nA (sX (af0 a r ls))) := by
 have hrl := vl.rl
 have hbl := vl.al.bl
 obtain ⟨hll,hla⟩ := ahx hz
 have hck := (ad1 h).chk
 haveI c := vl.al.ct hck
 obtain ⟨tw,etw⟩ := acd vl.al.tr hck
 have hzu : ∀ f ∈ ls, Zu 4000 300000 (pwE a r f) 100 100 := fun f hf => by
  obtain ⟨i,v,b,Z⟩ := aur vl h (hl f hf) (hla f hf)
  exact Z.zs
 refine gF0 func128 ?_
 refine gl ?_
 refine gL1 [1,3,7,14,15] [3,7] (fun (i : Nat) => [(8,some (nA (sX (af0 a r (ls.take i))))),(16,some (i64 i))]) (fun _ => []) (fun i => i <= ls.length) (fun i => ls.length - i) 0 (zero_le _) ?_ (h1 := (.cons rfl (axm a r ls) (.k .nil)))
 rintro i hi K1 hK1
 refine gC (fun ht17 => ?_) (fun ht17 => ?_)
 ·have hin := acr ht17
  obtain ⟨f,hf⟩ := adg hin
  have hfm := mem_of_getElem? hf
  have ho := hl f hfm
  obtain ⟨n,v,b,Z⟩ := aur vl h ho (hla f hfm)
  have hb0 := Z.e
  have ofx := ho.ok f.fx (by simp [Ld.l])
  have ofy := ho.ok f.fy (by simp [Ld.l])
  have om := ho.ok f.m (by simp [Ld.l])
  have qfx := ho.qb f.fx (by simp [Ld.l])
  have qfy := ho.qb f.fy (by simp [Ld.l])
  have qm := ho.qb f.m (by simp [Ld.l])
  haveI := Z.vz.w
  haveI := Z.zx
  haveI := Z.zy
  haveI := aq4 (w := 1) qfx (by omega)
  haveI := aq4 (w := 1) qfy (by omega)
  haveI := aq4 (w := 1) qm (by omega)
  haveI z2 := axn c (ls := ls.take i) (fun g hg => hzu g (mem_of_mem_take hg))
  have htl : (ls.take i).length <= 32:=by rw [length_take]; omega
  have hd := be4 (ts := llq a.rs) (u := 4000) (k := 300000) (a := sX (pvX a v b f.x f.y)) (b := sX (pvY a v b f.x f.y)) (a2 := sh 0 (f.fx.q : Rat)) (b2 := sh 0 (f.fy.q : Rat)) (by decide)
  have hm := arb (ts := llq a.rs) (u := 4000) (k := 300000) (a := sh 0 (f.m.q : Rat)) (b := lq v.w) (by decide)
  haveI := Z.vz.w.zu
  have h1 := an0 (ts := llq a.rs) (u := 4000) (k := 300000) (a := sX (af0 a r (ls.take i))) (b := sX (dotE (pvX a v b f.x f.y) (pvY a v b f.x f.y) (qE f.fx.q) (qE f.fy.q))) (by omega)
  have h2 := an0 (ts := llq a.rs) (u := 4000) (k := 300000) (a := sX (af0 a r (ls.take i) + dotE (pvX a v b f.x f.y) (pvY a v b f.x f.y) (qE f.fx.q) (qE f.fy.q))) (b := sX (qE f.m.q * dE (llq a.rs) (lq v.w))) (by omega)
  rw [<- etw] at hd hm h1 h2
  rw [<- Z.ew] at hm
  rw [bfi,<- Z.pw,<- ayn hf] at h2
  refine gi (aap hf) ?_
  refine gi (aqc (n := n) Z.e Z.hv) ?_
  refine gi (aqc (n := n) Z.e Z.hb) ?_
  refine gc Z.rp ?_
  refine gc Z.rv ?_
  refine gD ?_
  refine gc (aua f.fx f.fy ofx ofy (qfx.qs (by omega)) (qfy.qs (by omega))) ?_
  refine gc hd ?_
  refine gc h1 ?_
  refine gD ?_
  refine gc (anm f.m om (qm.qs (by omega))) ?_
  refine gi (aqc (n := n) Z.e Z.hv) ?_
  refine gc hm ?_
  refine gc h2 ?_
  refine gD ?_
  refine ga abl ?_
  exact gK1 hK1 (i + 1) hin
 ·have hin := aa8 hi ht17
  refine gE1 ?_
  rw [hin,take_length]
theorem au2 (a : As) (r : List Vr) (vl : VL a r) (ls : List Ld) (hl : ∀ f ∈ ls, LdOk f) (hn : ls.length <= 100) : FnC prog 45 [a.av, .lst 3 (r.map Vr.av), .lst 16 (ls.map Ld.av)] (.tup [nA (pwL a r ls), i64 (ap3 a r ls)]) := by
 have hrl := vl.rl
 refine gF0 func45 ?_
 refine gc (atf a r vl) ?_
 refine gC (fun ht14 => ?_) (fun ht14 => ?_)
 ·have h1 := ah0 ht14
  refine gR ?_
  exact ald (ak5 (a3a (by rw [a8l h1]; exact h1))) (Sub.of (by rw [a8l h1]))
 ·have h1 := ahu ht14
  refine gl ?_
  refine gc (au0 r.length ls hl hn) ?_
  refine gC (fun ht21 => ?_) (fun ht21 => ?_)
  ·have h2 := ah0 ht21
   refine gR ?_
   exact ald (ak5 (a3a (by rw [avf h1]; exact h2))) (Sub.of (by rw [avf h1]))
  ·have h2 := ahu ht21
   have h3 : ap3 a r ls = 0 := (avf h1).trans h2
   refine gc (au9 a r vl h1 ls hl h2) ?_
   refine gE2 ?_
   rw [as5 h3,h3]; rfl
end Go.Lw
namespace Go.Lw
open Go.Proofs Go.RowKit Go.Extern.Stop Go.Stop Go.Extern
theorem a2i (v : Value) (w : World) : (Extern.ReflectliteType.typeOf #[.iface 66 v]).run prog w = .ok (.iface 387 (.agg #[.pointer (some ⟨0,66,none⟩)])) w:=by kernel_rfl
theorem ark (w : World) : ((Extern.ReflectliteType.method fun t => do Go.Extern.Rtype.noPackHeld "Comparable" t; pure (.bool (<- typeInfo t).comparable)) #[.agg #[.pointer (some ⟨0, 66, none⟩)]]).run prog w = .ok (.bool true) w := by kernel_rfl
theorem a2s (v : Value) (w : World) : (Go.method 309 387 v "Comparable").run prog w = .ok (471, v) w := by kernel_rfl
theorem bbt : (prog.info? 66).map (·.comparable) = some true:=by kernel_rfl
theorem bbp (v : Value) (xT : TypeId) (w : World) : (Instr.typeAssert (.iface 66 v) xT 389 true).run prog w = .ok (.tuple #[.nilIface,.bool false]) w := run_typeAssert_lacksB Tryz.underlying389 (by kernel_rfl) (by kernel_rfl) v xT w
theorem bee (v : Value) (xT : TypeId) (w : World) : (Instr.typeAssert (.iface 66 v) xT 392 true).run prog w = .ok (.tuple #[.nilIface,.bool false]) w := run_typeAssert_lacksB Tryz.underlying392 (by kernel_rfl) (by kernel_rfl) v xT w
theorem a8d (v : Value) (xT : TypeId) (w : World) : (Instr.typeAssert (.iface 66 v) xT 394 true).run prog w = .ok (.tuple #[.nilIface,.bool false]) w := run_typeAssert_lacksB Tryz.underlying394 (by kernel_rfl) (by kernel_rfl) v xT w
theorem azw (d : Nat) (x y : Int) (w : World) : (Op.equalIn (d + 2) 40 (.iface 66 (.int .i64 x)) (.iface 66 (.int .i64 y))).run prog w = .ok (x == y) w := by
 obtain ⟨i,hi,hcmp⟩ := Option.map_eq_some_iff.1 bbt
 have hu := Tryz.underlying40
 have hv := Tryz.underlying66
 simp [Op.equalIn,run_underlying hu,run_underlying hv,typeInfo,hi,hcmp]
theorem bhw (x y : Int) (w : World) : (binOp .eql 40 (.iface 66 (.int .i64 x)) (.iface 66 (.int .i64 y))).run prog w = .ok (.bool (x == y)) w := by
 simp only [binOp]
 simp [Op.equal,Op.maxDepth,azw 9998 x y w]
theorem a7x (v : Value) (w : World) : (callFunc 227 #[.iface 66 v]).run prog w = .ok (.value (.iface 387 (.agg #[.pointer (some ⟨0, 66, none⟩)]))) w := by
 have h8 := @run_callFunc_extern prog 227 _ Extern.ReflectliteType.typeOf func227 (by kernel_rfl) (by kernel_rfl) (by kernel_rfl) (by kernel_rfl)
 rw [h8,a2i]; rfl
theorem a7h (w : World) : (callFunc 471 #[.agg #[.pointer (some ⟨0, 66, none⟩)]]).run prog w = .ok (.value (.bool true)) w := by
 have h32 := @run_callFunc_extern prog 471 _ (Extern.ReflectliteType.method fun t => do Go.Extern.Rtype.noPackHeld "Comparable" t; pure (.bool (<- typeInfo t).comparable)) func471 (by kernel_rfl) (by kernel_rfl) (by kernel_rfl) (by kernel_rfl)
 rw [h32,ark]; rfl
theorem bhs (x y : Int) (w : World) : Calls prog 124 #[.iface 66 (.int .i64 x), .iface 66 (.int .i64 y)] w fun e w' => e = .returned (.bool (x == y)) /\ w' = w := by
 have h8 := a7x
 have h32 := a7h
 have mR := a2s
 have heq := bhw x y
 have nE := bbp
 have uE := bee
 have vE := a8d
 cases hxy : (x == y)
 ·rw [hxy] at heq
  go_enter func124,Tryz.ntmps124
  go_wp2
  refine wp_loop_rounds 1 ?_
  rw [rounds_succ]
  go_wp2
  go_ret
  exact ⟨rfl,rfl⟩
 ·rw [hxy] at heq
  go_enter func124,Tryz.ntmps124
  go_wp2
  refine wp_loop_rounds 1 ?_
  rw [rounds_succ]
  go_wp2
  go_ret
  exact ⟨rfl,rfl⟩
theorem bf0 (y : Int) (w : World) : Calls prog 124 #[.nilIface, .iface 66 (.int .i64 y)] w fun e w' => e = .returned (.bool false) /\ w' = w := by
 have hn := run_eql_iface_nil_left (P := prog) w 66 (.int .i64 y) Tryz.underlying40
 go_enter func124,Tryz.ntmps124
 go_wp2
 go_ret
 exact ⟨rfl,rfl⟩
theorem atm {P : Program} {f : FuncId} {vs0 : List Value} {r : Value} (ok : aoe P f) (h : ∀ w, Calls P f vs0.toArray w fun e w' => e = .returned r /\ w' = w) : FnC P f (vs0.map .v) (.v r) :=
 ⟨ok, fun ext m w vs he hr hn hv => by
  have e : vs = vs0.toArray := by
   rw [length_map] at hn
   refine Array.ext (by simpa using hn) (fun i hi hi2 => ?_)
   have hi3 : i < vs0.length:=by simpa using hi2
   have r := hv i vs[i] (.v vs0[i]) (by simp [hi]) (by simp [hi3])
   have r2 : ∀ {g S m y z},Rep g S m y (.v z) -> y = z := fun h => by cases h; rfl
   rw [r2 r]; simp
  subst e
  refine Calls.mono (h w) ?_
  rintro e w' ⟨rfl,rfl⟩
  exact ⟨r,m,rfl,Frame.refl _ _,hr,fun k x b hk => (by cases hk),fun k x y hk => (by cases hk),Rep.v _⟩⟩
theorem a9e (e : Nat) : FnC prog 124 [afe e, .v (.iface 66 (.int .i64 9))] (bl (decide (e = 9))) := by
 have ok : aoe prog 124 := ati func124 rfl rfl
 by_cases h : e = 0
 ·subst h
  exact atm (vs0 := [.nilIface,.iface 66 (.int .i64 9)]) ok (bf0 9)
 ·have h1 := atm (vs0 := [.iface 66 (.int .i64 (e : Int)), .iface 66 (.int .i64 9)]) ok (bhs e 9)
  have e1 : afe e = .v (.iface 66 (.int .i64 (e : Int))):=by unfold afe; cases e with
  | zero => exact absurd rfl h
  | succ n => rfl
  have e2 : ((e : Int) == 9) = decide (e = 9) := by
   by_cases h9 : e = 9
   ·subst h9; rfl
   ·rw [decide_eq_false h9]; exact beq_eq_false_iff_ne.2 (by omega)
  rw [e1,<- e2]
  exact h1
end Go.Lw
namespace Go.Lw
open Go.Proofs
theorem aeb (a : As) (r : List Vr) (vl : VL a r) (ls : List Ld) (hl : ∀ f ∈ ls, LdOk f) (hn : ls.length <= 100) : FnC prog 44 [a.av, .lst 3 (r.map Vr.av), .lst 16 (ls.map Ld.av)] (.tup [nA (pwL a r ls), afe (ap3 a r ls)]) := by
 have hrl := vl.rl
 have hA := ayg a r vl 0 [] [] 0 baz baz (by omega)
 refine gF0 func44 ?_ (1,1)
 first | (refine gs (aaa (.tmp rfl) rfl rfl T33 rfl rfl rfl) ?_; trace "@@linkwork/force.Power 1.0 aaa") | (refine go ?_; trace "@@linkwork/force.Power 1.0 s_auto")
 refine gc (Con.subA (.cons (.refl _) (.cons (.refl _) (.cons (.refl _) (.cons (Sub.agg (.cons (Sub.nil 3 none 0) (.cons (Sub.nil 3 none 0) .nil)) rfl) .nil)))) hA) ?_ (1,9)
 first | (refine gs (aaw (.tmp rfl) rfl rfl rfl (.tmp rfl) rfl rfl T49 rfl rfl) ?_ (2, 5); trace "@@linkwork/force.Power 1.8 aaw") | (refine gs (acn (.tmp rfl) rfl rfl (.tmp rfl) rfl rfl T49 rfl rfl rfl) ?_ (2, 5); trace "@@linkwork/force.Power 1.8 acn") | (refine go ?_ (2, 5); trace "@@linkwork/force.Power 1.8 s_auto")
 first | (refine go ?_; refine glG ?_; trace "@@linkwork/force.Power 2.4 ahe") | (refine go ?_; refine geG (fun _ => rfl) ?_; trace "@@linkwork/force.Power 2.4 aet") | (refine go ?_; trace "@@linkwork/force.Power 2.4 s_auto")
 refine gcG (fun _ => (a9e (amw a r 0 [] []))) ?_
 refine gC (fun ht30 => ?_) (fun ht30 => ?_) (st2 := (4,2))
 ·obtain ⟨h1, h2⟩ := bnz ht30
  obtain ⟨h3,h4⟩ := bin h1 h2
  refine gR ?_
  exact ald (ak5 (a3a (by rw [a8l h3]; exact h3))) (Sub.of (by rw [a8l h3,h4]))
 ·have h3 := bir (bmb ht30)
  first | (refine go ?_; refine gl ?_; trace "@@linkwork/force.Power 4.1 ahe") | (refine go ?_; refine ge rfl ?_; trace "@@linkwork/force.Power 4.1 aet") | (refine go ?_; trace "@@linkwork/force.Power 4.1 s_auto")
  refine gc (ava r.length ls hl hn) ?_
  refine gC (fun ht37 => ?_) (fun ht37 => ?_) (st2 := (7,1))
  ·have h5 := acy ht37
   refine gR ?_
   exact ald (ak5 (a3a (by rw [avf h3]; exact h5))) (Sub.of (by rw [avf h3]))
  ·have h5 := ach ht37
   have h6 : ap3 a r ls = 0 := (avf h3).trans h5
   first | (refine gs (aaa (.tmp rfl) rfl rfl T33 rfl rfl rfl) ?_; trace "@@linkwork/force.Power 7.0 aaa") | (refine go ?_; trace "@@linkwork/force.Power 7.0 s_auto")
   refine gc (a3p a r vl h3 ls hl h5) ?_
   refine gE2 ?_
   rw [as5 h6,h6]; rfl
theorem ajx (ls : List Ld) (h : bem ls) : FnC prog 43 [.lst 16 (ls.map Ld.av)] (bl (bfx ls)) := by
 have hll := h.2
 refine gF0 func43 ?_ (1,2)
 first | (refine go ?_; refine gl ?_; trace "@@linkwork/linkworklaw44.light 1.1 ahe") | (refine go ?_; refine ge rfl ?_; trace "@@linkwork/linkworklaw44.light 1.1 aet") | (refine go ?_; trace "@@linkwork/linkworklaw44.light 1.1 s_auto")
 refine gL1 [0,5,6] [] (fun (i : Nat) => [(7,some (i64 i))]) (fun _ => []) (fun i => i <= ls.length /\ (ls.take i).all ldB = true) (fun i => ls.length - i) 0 ⟨zero_le _,rfl⟩ ?_
 rintro i ⟨hi,hj⟩ K1 hK1
 refine gC (fun ht8 => ?_) (fun ht8 => ?_) (st2 := (7,2))
 ·have hin := acr ht8
  obtain ⟨f,hf⟩ := adg hin
  have hfw := h.1 f (mem_of_getElem? hf)
  refine gi (aap hf) ?_ (3,2)
  first | (refine gs (aaa (.tmp rfl) rfl rfl T103 rfl rfl rfl) ?_ (3, 4); trace "@@linkwork/linkworklaw44.light 3.1 aaa") | (refine go ?_ (3, 4); trace "@@linkwork/linkworklaw44.light 3.1 s_auto")
  first | (refine gs (aaw (.tmp rfl) rfl rfl rfl (.tmp rfl) rfl rfl T103 rfl rfl) ?_ (4, 3); trace "@@linkwork/linkworklaw44.light 3.3 aaw") | (refine gs (acn (.tmp rfl) rfl rfl (.tmp rfl) rfl rfl T103 rfl rfl rfl) ?_ (4, 3); trace "@@linkwork/linkworklaw44.light 3.3 acn") | (refine go ?_ (4, 3); trace "@@linkwork/linkworklaw44.light 3.3 s_auto")
  first | (refine gs (aaa (.tmp rfl) rfl rfl T82 rfl rfl rfl) ?_ (4, 5); trace "@@linkwork/linkworklaw44.light 4.2 aaa") | (refine go ?_ (4, 5); trace "@@linkwork/linkworklaw44.light 4.2 s_auto")
  first | (refine gs (aaa (.tmp rfl) rfl rfl T82 rfl rfl rfl) ?_ (4, 8); trace "@@linkwork/linkworklaw44.light 4.4 aaa") | (refine go ?_ (4, 8); trace "@@linkwork/linkworklaw44.light 4.4 s_auto")
  first | (refine gs (aaa (.tmp rfl) rfl rfl T82 rfl rfl rfl) ?_ (4, 10); trace "@@linkwork/linkworklaw44.light 4.7 aaa") | (refine go ?_ (4, 10); trace "@@linkwork/linkworklaw44.light 4.7 s_auto")
  first | (refine gs (aaa (.tmp rfl) rfl rfl T82 rfl rfl rfl) ?_ (4, 13); trace "@@linkwork/linkworklaw44.light 4.9 aaa") | (refine go ?_ (4, 13); trace "@@linkwork/linkworklaw44.light 4.9 s_auto")
  first | (refine gs (aaa (.tmp rfl) rfl rfl T82 rfl rfl rfl) ?_; trace "@@linkwork/linkworklaw44.light 4.12 aaa") | (refine go ?_; trace "@@linkwork/linkworklaw44.light 4.12 s_auto")
  refine gc (Con.subA (.cons (Sub.agg (.cons (Sub.nil 1 none 0) .nil) rfl) (.cons (.refl _) .nil)) (aoi [] f.nums a39 (bl5 hfw) (by show 0 <= _; omega) (by show 3 <= 100; omega))) ?_
  refine gC (fun ht27 => ?_) (fun ht27 => ?_)
  ·have h1 := ajr ht27
   refine gE1 ?_
   unfold bfx; rw [af1 hf h1]; rfl
  ·have h1 := aj0 ht27
   refine ga abl ?_
   exact gK1 hK1 (i + 1) ⟨hin,ako hj hf h1⟩
 ·have hall := aox (aa8 hi ht8) hj
  first | (refine go ?_; refine gl ?_ (7, 6); trace "@@linkwork/linkworklaw44.light 7.1 ahe") | (refine go ?_; refine ge rfl ?_ (7, 6); trace "@@linkwork/linkworklaw44.light 7.1 aet") | (refine go ?_ (7, 6); trace "@@linkwork/linkworklaw44.light 7.1 s_auto")
  first | (refine go ?_; refine glG ?_ (7, 10); trace "@@linkwork/linkworklaw44.light 7.5 ahe") | (refine go ?_; refine geG (fun _ => rfl) ?_ (7, 10); trace "@@linkwork/linkworklaw44.light 7.5 aet") | (refine go ?_ (7, 10); trace "@@linkwork/linkworklaw44.light 7.5 s_auto")
  first | (refine go ?_; refine glG ?_; trace "@@linkwork/linkworklaw44.light 7.9 ahe") | (refine go ?_; refine geG (fun _ => rfl) ?_; trace "@@linkwork/linkworklaw44.light 7.9 aet") | (refine go ?_; trace "@@linkwork/linkworklaw44.light 7.9 s_auto")
  refine gE1 ?_
  unfold bfx; rw [hall,Bool.true_and]; exact congrArg bl be6
end Go.Lw
namespace Go.Lw
variable {P : Program}
mutual
def AV.pm (σ : Nat -> Nat) : AV -> AV
  | .ms k sz off len => .ms (σ k) sz off len
  | .ptr k off => .ptr (σ k) off
  | .eptr k sz i off => .eptr (σ k) sz i off
  | .yl k => .yl (σ k)
  | .agg cs => .agg (AV.pms σ cs)
  | .tup cs => .tup (AV.pms σ cs)
  | .fn f cs => .fn f (AV.pms σ cs)
  | .opt b x => .opt b (AV.pm σ x)
  | .v x => .v x
  | .lst sz l => .lst sz l
  | .iptr l => .iptr l
  | .cl f cs ds => .cl f cs ds
def AV.pms (σ : Nat -> Nat) : List AV -> List AV
  | [] => []
  | x :: l => AV.pm σ x :: AV.pms σ l
end
theorem AV.pms_eq (σ : Nat -> Nat) : ∀ l, AV.pms σ l = l.map (AV.pm σ)
 | [] => rfl
 | x :: l => by simp only [AV.pms,map_cons,AV.pms_eq σ l]
theorem AV.pm_one (σ : Nat -> Nat) (x : AV) (h : x.one = true) : (x.pm σ).one = true := by
 cases x <;> simp only [AV.pm] <;> exact h
mutual
theorem AV.pm_pm {σ : Nat -> Nat} (hσ : ∀ k, σ (σ k) = k) : ∀ x : AV, (x.pm σ).pm σ = x
 | .ms k sz off len => by simp only [AV.pm,hσ]
 | .ptr k off => by simp only [AV.pm,hσ]
 | .eptr k sz i off => by simp only [AV.pm,hσ]
 | .yl k => by simp only [AV.pm,hσ]
 | .agg cs => by simp only [AV.pm]; rw [AV.pms_pms hσ cs]
 | .tup cs => by simp only [AV.pm]; rw [AV.pms_pms hσ cs]
 | .fn f cs => by simp only [AV.pm]; rw [AV.pms_pms hσ cs]
 | .opt b x => by simp only [AV.pm]; rw [AV.pm_pm hσ x]
 | .v x => by simp only [AV.pm]
 | .lst sz l => by simp only [AV.pm]
 | .iptr l => by simp only [AV.pm]
 | .cl f cs ds => by simp only [AV.pm]
theorem AV.pms_pms {σ : Nat -> Nat} (hσ : ∀ k, σ (σ k) = k) : ∀ l : List AV, AV.pms σ (AV.pms σ l) = l
 | [] => by simp only [AV.pms]
 | x :: l => by simp only [AV.pms]; rw [AV.pm_pm hσ x,AV.pms_pms hσ l]
end
theorem axb {g : Nat -> Array Value -> Prop} {S : Nat -> Nat -> Prop} {σ : Nat -> Nat} (hσ : ∀ k, σ (σ k) = k) {m : Nat -> Option Nat} {v : Value} {x : AV} (h : Rep g S m v x) : Rep g S (fun k => m (σ k)) v (x.pm σ) := by
 induction h with
 | v x => exact .v x
 | lst0 a cap sz' => exact .lst0 a cap sz'
 | lst u hb hc hl hs ho hu hr _ => exact .lst u hb hc hl hs ho hu hr
 | iptr u hb ho hu hr _ => exact .iptr u hb ho hu hr
 | cl a b c d _ _ => exact .cl a b c d
 | ptr hm => exact .ptr (by simp only [hσ]; exact hm)
 | eptr hm => exact .eptr (by simp only [hσ]; exact hm)
 | yl hm => exact .yl (by simp only [hσ]; exact hm)
 | ms0 a k sz off => exact .ms0 _ _ _ _
 | ms hm hc hS => exact .ms (by simp only [hσ]; exact hm) hc hS
 | opt h h' ih => exact .opt ih h'
 | agg hn h1 hr ih =>
  simp only [AV.pm,AV.pms_eq]
  refine .agg (by simpa using hn) ?_ ?_
  ·intro j c hc
   simp only [getElem?_map,map_eq_some_iff] at hc
   obtain ⟨y,hy,rfl⟩ := hc
   exact AV.pm_one _ _ (h1 j y hy)
  ·intro j u c hu hc
   simp only [getElem?_map,map_eq_some_iff] at hc
   obtain ⟨y,hy,rfl⟩ := hc
   exact ih j u y hu hy
 | tup hn hr ih =>
  simp only [AV.pm,AV.pms_eq]
  refine .tup (by simpa using hn) ?_
  intro j u c hu hc
  simp only [getElem?_map,map_eq_some_iff] at hc
  obtain ⟨y,hy,rfl⟩ := hc
  exact ih j u y hu hy
 | fn hn hr ih =>
  simp only [AV.pm,AV.pms_eq]
  refine .fn (by simpa using hn) ?_
  intro j u c hu hc
  simp only [getElem?_map,map_eq_some_iff] at hc
  obtain ⟨y,hy,rfl⟩ := hc
  exact ih j u y hu hy
theorem bhi {g : Nat -> Array Value -> Prop} {S : Nat -> Nat -> Prop} {σ : Nat -> Nat} (hσ : ∀ k, σ (σ k) = k) {m : Nat -> Option Nat} {w : World} {o : Option Nat} {x : Blk} (h : BlkRep g S m w o x) :
  BlkRep g S (fun k => m (σ k)) w o (x.map (AV.pm σ)) := by
 cases x with
 | row sz es => exact h.mono (fun _ _ h => h) (fun _ _ h => h) (fun _ _ hk => hk.elim) rfl (fun _ _ => rfl)
 | vec vs => exact h.mono (fun _ _ h => h) (fun _ _ h => h) (fun _ _ hk => hk.elim) rfl (fun _ _ => rfl)
 | loop => exact h.mapLoop _ (fun _ _ _ _ h => axb hσ h)
 | box cs =>
  cases h with
  | box hw hn h1 hrr =>
   refine .box hw (by simpa using hn) ?_ ?_
   ·intro j x hx
    simp only [getElem?_map,map_eq_some_iff] at hx
    obtain ⟨y,hy,rfl⟩ := hx
    exact AV.pm_one _ _ (h1 j y hy)
   ·intro j u x hu hx
    simp only [getElem?_map,map_eq_some_iff] at hx
    obtain ⟨y,hy,rfl⟩ := hx
    exact axb hσ (hrr j u y hu hy)
theorem bde {σ : Nat -> Nat} (hσ : ∀ k, σ (σ k) = k) : ∀ sl : abm, aj2 (AV.pm σ) (aj2 (AV.pm σ) sl) = sl
 | [] => rfl
 | (t,none) :: l => by simp only [aj2,bde hσ l]
 | (t,some x) :: l => by simp only [aj2,bde hσ l,AV.pm_pm hσ x]
theorem Blk.pm_pm {σ : Nat -> Nat} (hσ : ∀ k, σ (σ k) = k) (x : Blk) : (x.map (AV.pm σ)).map (AV.pm σ) = x := by
 cases x with
 | row sz es => rfl
 | vec vs => rfl
 | loop d st pe sl => simp only [Blk.map,bde hσ]
 | box cs =>
  simp only [Blk.map]
  rw [<- AV.pms_eq,<- AV.pms_eq,AV.pms_pms hσ]
def pmH (σ : Nat -> Nat) : Hp -> Hp
  | [] => []
  | (k,x) :: l => (σ k,match x with | some b => some (b.map (AV.pm σ)) | none => none) :: pmH σ l
theorem ai8 {σ : Nat -> Nat} (hσ : ∀ k, σ (σ k) = k) : ∀ (H : Hp) (k : Nat), lk (pmH σ H) k = (lk H (σ k)).map (Blk.map (AV.pm σ))
 | [],k => rfl
 | (k', x) :: l, k => by
  simp only [pmH,aad,ai8 hσ l k]
  by_cases h : k = σ k'
  ·rw [if_pos h, if_pos (by rw [h, hσ])]
   cases x <;> rfl
  ·rw [if_neg h,if_neg (fun e => h (by rw [<- e,hσ]))]
theorem a1q {σ : Nat -> Nat} (hσ : ∀ k, σ (σ k) = k) (H : Hp) (m : Nat -> Option Nat) : Own (pmH σ H) (fun k => m (σ k)) = Own H m := by
 funext b
 apply propext
 constructor
 ·rintro ⟨k, z, hz, hb⟩
  rw [ai8 hσ,map_eq_some_iff] at hz
  obtain ⟨y,hy,rfl⟩ := hz
  exact ⟨σ k,y,hy,hb⟩
 ·rintro ⟨k, y, hy, hb⟩
  exact ⟨σ k,y.map (AV.pm σ),by rw [ai8 hσ,hσ,hy]; rfl,by simp only [hσ]; exact hb⟩
theorem a6h {σ : Nat -> Nat} (hσ : ∀ k, σ (σ k) = k) {ext : Nat -> Prop} {H : Hp} {m : Nat -> Option Nat} {w : World} (h : HeapRel ext H m w) : HeapRel ext (pmH σ H) (fun k => m (σ k)) w := by
 have e : Im ext (pmH σ H) (fun k => m (σ k)) w = Im ext H m w:=by funext b cs; simp only [Im,a1q hσ]
 refine ⟨?_,?_,?_⟩
 ·intro k z hz
  rw [ai8 hσ,map_eq_some_iff] at hz
  obtain ⟨y,hy,rfl⟩ := hz
  rw [e]
  exact bhi hσ (h.blk _ y hy)
 ·intro k k' z z' b hz hz' hb hb'
  rw [ai8 hσ,map_eq_some_iff] at hz hz'
  obtain ⟨y,hy,_⟩ := hz
  obtain ⟨y',hy',_⟩ := hz'
  have := h.inj _ _ y y' b hy hy' hb hb'
  rw [<- hσ k,this,hσ]
 ·intro k z b hz hb
  rw [ai8 hσ,map_eq_some_iff] at hz
  obtain ⟨y,hy,_⟩ := hz
  exact h.sep _ y b hy hb
theorem Con.pm {σ : Nat -> Nat} (hσ : ∀ k, σ (σ k) = k) {f : FuncId} {args : List AV} {H H' : Hp} {r : AV} (h : Con P f args H r H') : Con P f (args.map (AV.pm σ)) (pmH σ H) (r.pm σ) (pmH σ H') := by
 refine ⟨h.ok,?_⟩
 intro ext m w vs hext hheap hvs hrep
 have hlk : ∀ k, lk (pmH σ (pmH σ H)) k = lk H k := by
  intro k
  rw [ai8 hσ,ai8 hσ,hσ]
  cases lk H k with
  | none => rfl
  | some y => simp only [Option.map_some,Blk.pm_pm hσ]
 have hh := HeapRel.congr hlk (a6h hσ hheap)
 have em : (fun k => (fun k => m (σ k)) (σ k)) = m:=by funext k; simp only [hσ]
 have eo : Own (pmH σ H) m = Own H (fun k => m (σ k)) := by
  have := a1q hσ H (fun k => m (σ k))
  rw [em] at this; exact this
 have ei : Im ext (pmH σ H) m w = Im ext H (fun k => m (σ k)) w:=by funext b cs; simp only [Im,eo]
 refine Calls.mono (h.ret ext (fun k => m (σ k)) w vs hext hh (by simpa using hvs) (fun j v x hv hx => ?_)) ?_
 ·have h1 := hrep j v (x.pm σ) hv (by simp [hx])
  have h2 := axb hσ h1
  rw [AV.pm_pm hσ,ei] at h2
  exact h2
 ·rintro e w' ⟨v, m', rfl, hf, hh', hn, hk, hrr⟩
  refine ⟨v,fun k => m' (σ k),rfl,eo ▸ hf,a6h hσ hh',?_,?_,?_⟩
  ·intro k x b hx hb
   rw [ai8 hσ,map_eq_some_iff] at hx
   obtain ⟨y,hy,_⟩ := hx
   rw [eo]
   exact hn _ y b hy hb
  ·intro k x y hx hy
   rw [ai8 hσ,map_eq_some_iff] at hx hy
   obtain ⟨x',hx',_⟩ := hx
   obtain ⟨y',hy',_⟩ := hy
   have := hk _ x' y' hx' hy'
   simpa only [hσ] using this
  ·have e2 : Im ext (pmH σ H') (fun k => m' (σ k)) w' = Im ext H' m' w' := by funext b cs; simp only [Im, a1q hσ]
   rw [e2]
   exact axb hσ hrr
end Go.Lw
